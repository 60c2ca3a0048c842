import Derived.Test.YtjlljjnkjhdljaaXAx0
import Derived.Test.YtjlljjnkjhdljaaXAx4
import Derived.Test.YtjlljjnkjhdljaaHr
import Derived.Test.YtjlljjnkjhdljaaHa
import Derived.RangeFuncNested
import Derived.RangeFuncBound
import Derived.RangeFuncCalls
import Derived.RangeFuncLeaves
import Derived.Shelf.Abstract
import Derived.OwnWalkIn
import Derived.TacticsInMore
import Derived.LoopNIn
import Derived.LoopIn
namespace Go.Proofs.Ytjlljjnkjhdljaa.XA
open Go.RowKit Go.Shelf Go.Proofs.Ytjlljjnkjhdljaa.Opens Go.Proofs.YtjlljjnkjhdljaaW.PrintWords Go.Proofs.YtjlljjnkjhdljaaW.PrintLast Go.Proofs.YtjlljjnkjhdljaaW.PrintMore
attribute [local go_sem] Oper.semAt_some
set_option linter.unusedVariables false
set_option linter.unusedSimpArgs false

def crs (p q c : S46) : Int := wrap64 ((wrap64 ((wrap64 (q.f0 - p.f0)) * (wrap64 (c.f1 - p.f1)))) - (wrap64 ((wrap64 (q.f1 - p.f1)) * (wrap64 (c.f0 - p.f0)))))
def lefts (e : Ed) (l1 : List S46) : Bool := l1.any fun c => decide (crs e.1 e.2 c > 0)
def apt (l1 : List S46) (es : List Ed) : Bool := es.any fun e => !lefts e l1
def arch_apart.f (k : Nat) (l0 l1 : List S46) : Option Bool := if (0 < l0.length ∧ l0.length < 1000) ∧ l1.length < 1000 then some (apt l1 (edge_upto l0 l0.length)) else none
theorem arch_apart.mono : ∀ a0 a1 k, LeO (arch_apart.f k a0 a1) (arch_apart.f (k + 1) a0 a1) := fun _ _ _ => LeO.refl _

def ix_apart.l0 (s8_0 s8_1 s16_0 s16_1 : Int) : Nat → List (S46) → Int → Int → Option (Int)
  | 0, _, _, _ => none
  | k + 1, x0, x7, x8 => if x8 < x7 then (if 0 ≤ x8 then (if x8 < (x0.length : Int) then ((arch_apart_1.f ((rd_T46 x0 x8).f0) ((rd_T46 x0 x8).f1) s8_0 s8_1 s16_0 s16_1).bind fun t110 => (if t110 = true then (some x8) else (ix_apart.l0 s8_0 s8_1 s16_0 s16_1 k x0 x7 (wrap64 (x8 + 1))))) else (none)) else (none)) else (some (-1))
def ix_apart.f (s8_0 s8_1 s16_0 s16_1 : Int) (k : Nat) (l0 : List (S46))  : Option (Int) := ix_apart.l0 s8_0 s8_1 s16_0 s16_1 k l0 (l0.length : Int) 0
set_option maxHeartbeats 8000000 in
set_option maxRecDepth 100000 in
theorem ix_apart.calls (k : Nat) (A0 : Option Addr) (c0 : Nat) (l0 : List (S46)) (g8 : Nat) (s8_0 : Int) (s8_1 : Int) (g16 : Nat) (s16_0 : Int) (s16_1 : Int) (r : Int) (w : World) (hb8 : Blk w g8 #[.int .i64 s8_0, .int .i64 s8_1] 46) (hb16 : Blk w g16 #[.int .i64 s16_0, .int .i64 s16_1] 46) (hr0 : Kd.C k46 w A0 l0.length l0) (hc0 : l0.length ≤ c0) (h : ix_apart.f s8_0 s8_1 s16_0 s16_1 k l0 = some r) :
    Calls Try.prog 68 #[.slice A0 l0.length c0, .func (.func 70) #[] #[.pointer (some ⟨g8, 0, none⟩), .pointer (some ⟨g16, 0, none⟩)]] w fun e w' => e = .returned (.int .i64 r) ∧ Below w.heap.size w w' := by
  have hu46 := Try.underlying46
  have HR0 := Aside0.mk hr0
  have HC0 := Aside0.mk hc0
  have BK8 := Aside0.mk hb8
  have BK16 := Aside0.mk hb16
  clear hr0 hc0 hb8 hb16
  have HB := Aside0.mk (Below.refl w.heap.size w)
  have H : (ix_apart.l0 s8_0 s8_1 s16_0 s16_1 k l0 (l0.length : Int) 0) = some r := h
  clear h
  have H' := Aside0.mk H
  clear H
  go_enter Try.func68, Try.ntmps68
  go_wp2
  go_loopg [8] k (fun kq v8 w' => ∃ (x8_1 : Int), v8 = .int .i64 x8_1 ∧ Aside0 (ix_apart.l0 s8_0 s8_1 s16_0 s16_1 kq l0 (l0.length : Int) x8_1 = some r) ∧ Aside0 (kq ≤ k) ∧ Aside0 (Blk w' g8 #[.int .i64 s8_0, .int .i64 s8_1] 46) ∧ Aside0 (Blk w' g16 #[.int .i64 s16_0, .int .i64 s16_1] 46) ∧ Aside0 (Below w.heap.size w w'))
  case atStart => exact ⟨(0), (by first | rfl | (simp; done) | (simp [*]; done)), H', ⟨Nat.le_refl _⟩, ⟨by (with_reducible repeat (first | refine blk_drewN ?_ _ | refine blk_drew ?_ | refine blk_alloc ?_ _)); exact BK8.out⟩, ⟨by (with_reducible repeat (first | refine blk_drewN ?_ _ | refine blk_drew ?_ | refine blk_alloc ?_ _)); exact BK16.out⟩, ⟨by repeat (first | (with_reducible first | exact HB.out | apply below_alloc | apply pw_below_drewN | apply below_drew1) | exact HB.out)⟩⟩
  case round =>
    clear H'
    try clear p2
    obtain ⟨x8_1, rfl, HA, HK1, BK8, BK16, HB⟩ := hrel
    cases gk with
    | zero => exact absurd HA.out (by simp [ix_apart.l0])
    | succ k1 =>
      have H := HA.out
      clear HA
      simp only [ix_apart.l0] at H
      by_cases c3 : x8_1 < (l0.length : Int)
      · rw [if_pos c3] at H
        have c3b0 : decide (x8_1 < (l0.length : Int)) = true := decide_eq_true c3
        clear c3
        by_cases c4 : 0 ≤ x8_1
        · rw [if_pos c4] at H
          have c4b0 : decide (0 ≤ x8_1) = true := decide_eq_true c4
          clear c4
          by_cases c5 : x8_1 < (l0.length : Int)
          · rw [if_pos c5] at H
            have c5b0 : decide (x8_1 < (l0.length : Int)) = true := decide_eq_true c5
            clear c5
            replace H := Option.bind_eq_some_iff.mp H
            obtain ⟨t110, A60, H⟩ := H
            replace H : (if t110 = true then (some x8_1) else (ix_apart.l0 s8_0 s8_1 s16_0 s16_1 k1 l0 (l0.length : Int) (wrap64 (x8_1 + 1)))) = some r := H
            have A6 := Aside0.mk A60
            clear A60
            by_cases c7 : t110 = true
            · subst c7
              have H1 : (some x8_1) = some r := by rw [if_pos rfl] at H; exact H
              clear H
              have H := H1
              clear H1
              obtain rfl := Option.some.inj H
              have p109 : 0 ≤ (x8_1 : Int) := of_decide_eq_true (by first | (with_reducible assumption) | assumption)
              have q109 : x8_1 < (l0.length : Int) := of_decide_eq_true (by first | (with_reducible assumption) | assumption)
              obtain ⟨ad109, e109, hx109_0, hx109_1⟩ := at_T46 HR0.out x8_1 p109 q109
              cases e109
              replace hx109_0 := (HB.out.cell (World.block_lt_of_cell? w _ hx109_0)).trans hx109_0
              replace hx109_1 := (HB.out.cell (World.block_lt_of_cell? w _ hx109_1)).trans hx109_1
              replace p109 := eq_true p109
              replace q109 := eq_true q109
              go_wp2_with (first | (go_at_call 70; (with_reducible refine (arch_apart_1.calls ((rd_T46 l0 x8_1).f0) ((rd_T46 l0 x8_1).f1) g8 s8_0 s8_1 g16 s16_0 s16_1 true _ ?side1 ?side2 A6.out).mono ?_); (case side1 => exact (by (with_reducible repeat (first | refine blk_drewN ?_ _ | refine blk_drew ?_ | refine blk_alloc ?_ _)); exact BK8.out)); (case side2 => exact (by (with_reducible repeat (first | refine blk_drewN ?_ _ | refine blk_drew ?_ | refine blk_alloc ?_ _)); exact BK16.out)); rintro e w8 ⟨rfl, hb⟩; have m1_ := Aside0.mk (blk_below (by (with_reducible repeat (first | refine blk_drewN ?_ _ | refine blk_drew ?_ | refine blk_alloc ?_ _)); exact BK8.out) hb); have m2_ := Aside0.mk (blk_below (by (with_reducible repeat (first | refine blk_drewN ?_ _ | refine blk_drew ?_ | refine blk_alloc ?_ _)); exact BK16.out) hb); clear BK8 BK16; have BK8 := m1_; have BK16 := m2_; clear m1_ m2_; have n0_ := Aside0.mk (below_step (by repeat (first | (with_reducible first | exact HB.out | apply below_alloc | apply pw_below_drewN | apply below_drew1) | exact HB.out)) hb); clear HB; have HB := n0_; clear n0_; (try clear hb); (try clear hb2); (try clear hk); (try clear hi)))
              go_ret
              exact ⟨by first | rfl | (simp [errW_none, errW_some] <;> rfl) | (simp [*, errW_none, errW_some] <;> rfl), by repeat (first | (with_reducible first | exact HB.out | apply below_alloc | apply pw_below_drewN | apply below_drew1) | exact HB.out)⟩
            · replace c7 := Bool.eq_false_iff.mpr c7
              subst c7
              have H1 : (ix_apart.l0 s8_0 s8_1 s16_0 s16_1 k1 l0 (l0.length : Int) (wrap64 (x8_1 + 1))) = some r := by rw [if_neg (show ¬ (false = true) by decide)] at H; exact H
              clear H
              have H := H1
              clear H1
              have H' := Aside0.mk H
              clear H
              have p109 : 0 ≤ (x8_1 : Int) := of_decide_eq_true (by first | (with_reducible assumption) | assumption)
              have q109 : x8_1 < (l0.length : Int) := of_decide_eq_true (by first | (with_reducible assumption) | assumption)
              obtain ⟨ad109, e109, hx109_0, hx109_1⟩ := at_T46 HR0.out x8_1 p109 q109
              cases e109
              replace hx109_0 := (HB.out.cell (World.block_lt_of_cell? w _ hx109_0)).trans hx109_0
              replace hx109_1 := (HB.out.cell (World.block_lt_of_cell? w _ hx109_1)).trans hx109_1
              replace p109 := eq_true p109
              replace q109 := eq_true q109
              go_wp2_with (first | (go_at_call 70; (with_reducible refine (arch_apart_1.calls ((rd_T46 l0 x8_1).f0) ((rd_T46 l0 x8_1).f1) g8 s8_0 s8_1 g16 s16_0 s16_1 false _ ?side1 ?side2 A6.out).mono ?_); (case side1 => exact (by (with_reducible repeat (first | refine blk_drewN ?_ _ | refine blk_drew ?_ | refine blk_alloc ?_ _)); exact BK8.out)); (case side2 => exact (by (with_reducible repeat (first | refine blk_drewN ?_ _ | refine blk_drew ?_ | refine blk_alloc ?_ _)); exact BK16.out)); rintro e w9 ⟨rfl, hb⟩; have m1_ := Aside0.mk (blk_below (by (with_reducible repeat (first | refine blk_drewN ?_ _ | refine blk_drew ?_ | refine blk_alloc ?_ _)); exact BK8.out) hb); have m2_ := Aside0.mk (blk_below (by (with_reducible repeat (first | refine blk_drewN ?_ _ | refine blk_drew ?_ | refine blk_alloc ?_ _)); exact BK16.out) hb); clear BK8 BK16; have BK8 := m1_; have BK16 := m2_; clear m1_ m2_; have n0_ := Aside0.mk (below_step (by repeat (first | (with_reducible first | exact HB.out | apply below_alloc | apply pw_below_drewN | apply below_drew1) | exact HB.out)) hb); clear HB; have HB := n0_; clear n0_; (try clear hb); (try clear hb2); (try clear hk); (try clear hi)))
              go_roundg k1
              case measure => have := HK1.out; omega
              case rel => exact ⟨(wrap64 (x8_1 + 1)), (by first | rfl | (simp; done) | (simp [*]; done)), H', ⟨by have := HK1.out; omega⟩, ⟨by (with_reducible repeat (first | refine blk_drewN ?_ _ | refine blk_drew ?_ | refine blk_alloc ?_ _)); exact BK8.out⟩, ⟨by (with_reducible repeat (first | refine blk_drewN ?_ _ | refine blk_drew ?_ | refine blk_alloc ?_ _)); exact BK16.out⟩, ⟨by repeat (first | (with_reducible first | exact HB.out | apply below_alloc | apply pw_below_drewN | apply below_drew1) | exact HB.out)⟩⟩
          · rw [if_neg c5] at H
            exact absurd H (by simp)
        · rw [if_neg c4] at H
          exact absurd H (by simp)
      · rw [if_neg c3] at H
        have c3b0 : decide (x8_1 < (l0.length : Int)) = false := decide_eq_false c3
        clear c3
        obtain rfl := Option.some.inj H
        go_wp2
        go_ret
        exact ⟨by first | rfl | (simp [errW_none, errW_some] <;> rfl) | (simp [*, errW_none, errW_some] <;> rfl), by repeat (first | (with_reducible first | exact HB.out | apply below_alloc | apply pw_below_drewN | apply below_drew1) | exact HB.out)⟩


theorem ix_left (p q : S46) (l0 : List S46) (hl : l0.length < 1000) : ∀ (m : Nat) (i : Int) (k : Nat), 0 ≤ i → i + m = l0.length → m < k →
    ∃ r, ix_apart.l0 p.f0 p.f1 q.f0 q.f1 k l0 (l0.length : Int) i = some r ∧ decide (r ≥ 0) = (l0.drop i.toNat).any fun c => decide (crs p q c > 0) := by
  intro m
  induction m with
  | zero =>
    intro i k h0 hm hk
    obtain ⟨k, rfl⟩ : ∃ q, k = q + 1 := ⟨k - 1, by omega⟩
    simp only [ix_apart.l0]
    rw [if_neg (by omega)]
    refine ⟨-1, rfl, ?_⟩
    rw [List.drop_of_length_le (by omega)]
    rfl
  | succ m ih =>
    intro i k h0 hm hk
    obtain ⟨k, rfl⟩ : ∃ q, k = q + 1 := ⟨k - 1, by omega⟩
    simp only [ix_apart.l0]
    rw [if_pos (by omega), if_pos h0, if_pos (by omega)]
    have hlt : i.toNat < l0.length := by omega
    have hd : l0.drop i.toNat = rd_T46 l0 i :: l0.drop (i.toNat + 1) := by
      rw [List.drop_eq_getElem_cons hlt]
      unfold rd_T46
      rw [List.getD_eq_getElem?_getD, List.getElem?_eq_getElem hlt]
      rfl
    have hw : wrap64 (i + 1) = i + 1 := by unfold wrap64; omega
    rw [hd, List.any_cons]
    simp only [arch_apart_1.f, arch_cross.f, Option.bind_some]
    by_cases c : crs p q (rd_T46 l0 i) > 0
    · refine ⟨i, ?_, ?_⟩
      · exact if_pos (decide_eq_true c)
      · rw [decide_eq_true c, decide_eq_true (show i ≥ 0 from h0)]
        rfl
    · obtain ⟨r, h1, h2⟩ := ih (i + 1) k (by omega) (by omega) (by omega)
      refine ⟨r, ?_, ?_⟩
      · rw [hw]
        exact (if_neg (fun e => c (of_decide_eq_true e))).trans h1
      · rw [h2, decide_eq_false c, show (i + 1).toNat = i.toNat + 1 by omega]
        rfl
theorem contains_left (A1 : Option Addr) (c1 : Nat) (l1 : List S46) (g8 g16 : Nat) (p q : S46) (w : World) (hl : l1.length < 1000) (hr0 : Kd.C k46 w A1 l1.length l1) (hc0 : l1.length ≤ c1) (hb8 : Blk w g8 #[.int .i64 p.f0, .int .i64 p.f1] 46) (hb16 : Blk w g16 #[.int .i64 q.f0, .int .i64 q.f1] 46) :
    Calls Try.prog 55 #[.slice A1 l1.length c1, .func (.func 70) #[] #[.pointer (some ⟨g8, 0, none⟩), .pointer (some ⟨g16, 0, none⟩)]] w fun e w' => e = .returned (.bool (lefts (p, q) l1)) ∧ Below w.heap.size w w' := by
  obtain ⟨r, h1, h2⟩ := ix_left p q l1 hl l1.length 0 (l1.length + 1) (by omega) (by omega) (by omega)
  have h3 : decide (r ≥ 0) = lefts (p, q) l1 := h2
  have HR0 := Aside0.mk hr0
  have HB8 := Aside0.mk hb8
  have HB16 := Aside0.mk hb16
  clear hr0 hb8 hb16 h2
  go_enter Try.func55, Try.ntmps55
  go_wp2_with (go_at_call 68; refine (ix_apart.calls (l1.length + 1) _ _ l1 g8 p.f0 p.f1 g16 q.f0 q.f1 r _ ?_ ?_ HR0.out hc0 h1).mono ?_; (exact HB8.out); (exact HB16.out); rintro e w4 ⟨rfl, hb⟩)
  go_ret
  exact ⟨by rw [← h3]; rfl, by assumption⟩
set_option maxRecDepth 100000 in
set_option maxHeartbeats 4000000 in
theorem arch_apart.calls (k : Nat) (A0 : Option Addr) (c0 : Nat) (l0 : List S46) (A1 : Option Addr) (c1 : Nat) (l1 : List S46) (r : Bool) (w : World) (hr0 : Kd.C k46 w A0 l0.length l0) (hc0 : l0.length ≤ c0) (hr1 : Kd.C k46 w A1 l1.length l1) (hc1 : l1.length ≤ c1) (h : arch_apart.f k l0 l1 = some r) :
    Calls Try.prog 63 #[.slice A0 l0.length c0, .slice A1 l1.length c1] w fun e w' => e = .returned (.bool r) ∧ Below w.heap.size w w' := by
  have hp : (0 < l0.length ∧ l0.length < 1000) ∧ l1.length < 1000 := by
    refine Classical.byContradiction fun hp => ?_
    simp [arch_apart.f, hp] at h
  have hr : apt l1 (edge_upto l0 l0.length) = r := by rw [arch_apart.f, if_pos hp] at h; exact Option.some.inj h
  clear h
  obtain ⟨⟨hpos, hlen⟩, hk2⟩ := hp
  refine (callsIn_wide (n := 5)).1 ?_
  refine callsIn_of_wp_marks Try.func63 rfl trivial ?_ rfl
  simp only [Try.ntmps63, List.size_toArray, List.length_cons, List.length_nil, Nat.reduceAdd, Nat.reduceSub, Array.replicate_succ, Array.replicate_zero, List.push_toArray, List.append_toArray, List.nil_append, List.cons_append]
  gi_wp2_with (refine ⟨trivial, ?_⟩; gi_at_call 43; refine (edges_in Fence.wide _ trivial rfl _ _ _ _).mono ?_; rintro e w' ⟨rfl, rfl⟩)
  have bS := ((Boxed.new w 38 (.slice A1 l1.length c1)).alloc (.cells #[.bool false] 4)).alloc (.cells #[.slice A0 l0.length c0] 38)
  have bR := (Boxed.new (w.alloc (.cells #[.slice A1 l1.length c1] 38)) 4 (.bool false)).alloc (.cells #[.slice A0 l0.length c0] 38)
  have bE := Boxed.new ((w.alloc (.cells #[.slice A1 l1.length c1] 38)).alloc (.cells #[.bool false] 4)) 38 (.slice A0 l0.length c0)
  simp only [World.size_alloc] at bR bE
  have hB0 : Below w.heap.size w (((w.alloc (.cells #[.slice A1 l1.length c1] 38)).alloc (.cells #[.bool false] 4)).alloc (.cells #[.slice A0 l0.length c0] 38)) := ((((Below.refl _ w).alloc (Nat.le_refl _) _).alloc (by simp) _).alloc (by simp; omega) _)
  have hsz : (((w.alloc (.cells #[.slice A1 l1.length c1] 38)).alloc (.cells #[.bool false] 4)).alloc (.cells #[.slice A0 l0.length c0] 38)).heap.size = w.heap.size + 3 := by simp
  obtain ⟨W0, hW0⟩ : ∃ W0, ((w.alloc (.cells #[.slice A1 l1.length c1] 38)).alloc (.cells #[.bool false] 4)).alloc (.cells #[.slice A0 l0.length c0] 38) = W0 := ⟨_, rfl⟩
  rw [hW0] at bS bR bE hB0 hsz ⊢
  clear hW0
  refine wpIn_rangeFunc_ownH rfl (by omega) (gf := 66) (lb := #[.pointer (some ⟨w.heap.size + 1 + 1, 0, none⟩)]) rfl trivial (enters_of Try.func66 (by kernel_rfl) rfl)
    (edges_stops (5 - 1) (by omega) (w.heap.size + 1 + 1) w.heap.size A0 c0 l0 w hr0 hpos hlen W0 hB0 (Nat.le_refl _) (by omega) bE.cell (by omega)) KeepB.trans (KeepB.put (by omega) (by omega)) (Below.refl _ _) (fun _ => rfl)
    (fun pre W => (Boxed W (w.heap.size + 1) 4 (.bool false) ∧ Boxed W w.heap.size 38 (.slice A1 l1.length c1) ∧ Boxed W (w.heap.size + 1 + 1) 38 (.slice A0 l0.length c0) ∧ ∀ rest, apt l1 (pre ++ rest) = apt l1 rest) ∧ Below w.heap.size w W)
    (fun c pre W => (c = .ret ∧ Boxed W (w.heap.size + 1) 4 (.bool true) ∧ ∀ rest, apt l1 (pre ++ rest) = true) ∧ Below w.heap.size w W)
    (OwnFrom.and (Own.from (fun s X Y row hs hg hr => by obtain ⟨h2, h3, h5, h4⟩ := hs; exact ⟨boxed_own _ _ (fun (_ : Unit) => _) () X Y row h2 hg hr, boxed_own _ _ (fun (_ : Unit) => _) () X Y row h3 hg hr, boxed_own _ _ (fun (_ : Unit) => _) () X Y row h5 hg hr, h4⟩) _) (ownFrom_below (Nat.le_refl _) (by omega)))
    (fun c => OwnFrom.and (Own.from (fun s X Y row hs hg hr => by obtain ⟨hc, h2, h4⟩ := hs; exact ⟨hc, boxed_own _ _ (fun (_ : Unit) => _) () X Y row h2 hg hr, h4⟩) _) (ownFrom_below (Nat.le_refl _) (by omega)))
    ⟨⟨bR, bS, bE, fun _ => rfl⟩, hB0⟩
    (fun x a' W => ∃ Bx, w.heap.size + 3 ≤ Bx ∧ Blk W Bx #[.int .i64 x.1.f0, .int .i64 x.1.f1] 46 ∧ Blk W (Bx + 1) #[.int .i64 x.2.f0, .int .i64 x.2.f1] 46 ∧ a' = { tmps := #[.slice A0 l0.length c0, .slice A1 l1.length c1, undef, .pointer (some ⟨w.heap.size, 0, none⟩), .pointer (some ⟨w.heap.size + 1, 0, none⟩), .pointer (some ⟨Bx, 0, none⟩), .pointer (some ⟨Bx + 1, 0, none⟩), .slice A0 l0.length c0, .func (.func 66) #[] #[.pointer (some ⟨w.heap.size + 1 + 1, 0, none⟩)], .agg #[.int .i64 x.1.f0, .int .i64 x.1.f1], .agg #[.int .i64 x.2.f0, .int .i64 x.2.f1], undef, undef, undef, undef], defers := [] })
    (fun x a' _ X Y row hs hg hr => by obtain ⟨Bx, h1, h2, h3, h4⟩ := hs; exact ⟨Bx, h1, Blk.own Bx (fun (_ : Unit) => _) 46 () X Y row h2 hg (fun r e => (hr r e).2), Blk.own (Bx + 1) (fun (_ : Unit) => _) 46 () X Y row h3 hg (fun r e => (hr r e).2), h4⟩)
    ?assign ?body ?done ?stop
  case assign =>
    rintro l pre x W K ⟨⟨bR1, bS1, bE1, hcv⟩, hB1⟩ hK
    dsimp only [edge_enc]
    gi_wp2
    have hlW : w.heap.size + 1 + 1 < W.heap.size := bE1.lt
    have hs1 := hB1.size
    exact hK _ _ (((KeepsOthers.alloc _ _).trans (KeepsOthers.alloc _ _)).from _) ⟨((Below.refl _ W).alloc hB1.size _).alloc (by simp; omega) _, ((bE1.alloc _).alloc _).trans (Eq.symm bE1)⟩ ⟨⟨(bR1.alloc _).alloc _, (bS1.alloc _).alloc _, (bE1.alloc _).alloc _, hcv⟩, (hB1.alloc hB1.size _).alloc (by simp; omega) _⟩ ⟨W.heap.size, by omega, blk_alloc (World.alloc_heap_new W _) _, by have := World.alloc_heap_new (W.alloc (.cells #[.int .i64 x.1.f0, .int .i64 x.1.f1] 46)) (.cells #[.int .i64 x.2.f0, .int .i64 x.2.f1] 46); rwa [World.size_alloc] at this, rfl⟩
  case body =>
    rintro l pre x a' W hl ⟨r', hrl⟩ ⟨⟨bR1, bS1, bE1, hcv⟩, hB1⟩ ⟨Bx, hBx, bX, bY, rfl⟩ hlt
    have cS := bS1.cell
    have hstep : ∀ rest, apt l1 (pre ++ [x] ++ rest) = (!lefts x l1 || apt l1 rest) := fun rest => by
      rw [List.append_assoc, hcv]
      rfl
    have h1' : 1 ≤ 5 - 1 - 1 := by omega
    have hW : Kd.C k46 W A1 l1.length l1 := Kd.C_below hr1 hB1
    have hcon := contains_left A1 c1 l1 Bx (Bx + 1) x.1 x.2 W hk2 hW hc1 bX bY
    cases hb : lefts x l1 with
    | false =>
      rw [show lefts (x.1, x.2) l1 = false from hb] at hcon
      gi_wp2_with (refine ⟨trivial, ?_⟩; gi_at_call 55; refine (CallsIn.inRound l (callsIn_wide.2 hcon)).mono ?_; rintro e w1 ⟨rfl, hb1⟩; have rR := boxed_past hb1 bR1; have rc := rR.cell; have rf := rR.frozen)
      exact ⟨((others_of_below hb1).trans (KeepsOthers.setCell _ _ _)).from _, ⟨rfl, rR.set _, fun rest => by rw [hstep, hb]; rfl⟩, (hB1.trans (hb1.mono hB1.size)).setCell (p := ⟨w.heap.size + 1, 0, none⟩) (by simp) _⟩
    | true =>
      rw [show lefts (x.1, x.2) l1 = true from hb] at hcon
      gi_wp2_with (refine ⟨trivial, ?_⟩; gi_at_call 55; refine (CallsIn.inRound l (callsIn_wide.2 hcon)).mono ?_; rintro e w1 ⟨rfl, hb1⟩)
      exact ⟨(others_of_below hb1).from _, ⟨hb1.mono hB1.size, (boxed_past hb1 bE1).trans (Eq.symm bE1)⟩, ⟨boxed_past hb1 bR1, boxed_past hb1 bS1, boxed_past hb1 bE1, fun rest => by rw [hstep, hb]; rfl⟩, hB1.trans (hb1.mono hB1.size)⟩
  case done =>
    rintro D ys W hD rfl ⟨⟨bR1, bS1, bE1, hcv⟩, hB1⟩ hK
    have rc := bR1.cell
    have rf := bR1.frozen
    have hfin : false = r := by
      have := hcv []
      rw [List.append_nil, hr] at this
      exact this.symm
    subst hfin
    gi_wp2
    have hK' := (KeepsOthers.setCell W ⟨w.heap.size + 1, 0, none⟩ (.bool false)).same D _ hK rfl
    have hc5 := cell_kept (World.cell?_setCell_same' W ⟨w.heap.size + 1, 0, none⟩ (.bool false) (by rw [rc]; rfl)) (grownBy_putObj' _ D (.deferred none)) (fun r e => by cases e; exact ⟨_, hK', rfl⟩)
    refine ⟨by simp, .inl ⟨_, _, rfl, run_takeDeferred hK', ?_⟩⟩
    refine ⟨.bool false, ?_, ⟨rfl, (hB1.setCell (p := ⟨w.heap.size + 1, 0, none⟩) (by simp) _).trans (belowK_b (w := w) (Nat.le_refl _) _ D _ _ (by omega) hK' rfl rfl)⟩⟩
    simp [results, Try.f63, go_sem, hc5]
  case stop =>
    rintro D c pre W hD ⟨k, hk, rfl⟩ ⟨⟨rfl, bR1, hcv⟩, hB1⟩ hK
    have hrf : r = true := by
      rw [← hr, show edge_upto l0 l0.length = edge_upto l0 k ++ (edge_upto l0 l0.length).drop k by
        conv => lhs; rw [← List.take_append_drop k (edge_upto l0 l0.length)]
        congr 1
        simp [edge_upto, ← List.map_take, List.take_range, Nat.min_eq_left hk], hcv]
    subst hrf
    have rc := bR1.cell
    gi_wp2
    have hc5 := cell_kept rc (grownBy_putObj' _ D (.deferred none)) (fun r e => by cases e; exact ⟨_, hK, rfl⟩)
    refine ⟨by simp, .inl ⟨_, _, rfl, run_takeDeferred hK, ?_⟩⟩
    refine ⟨.bool true, ?_, rfl, hB1.trans (belowK_b (w := w) (Nat.le_refl _) W D _ _ (by omega) hK rfl rfl)⟩
    simp [results, Try.f63, go_sem, hc5]

end Go.Proofs.Ytjlljjnkjhdljaa.XA
