import Derived.Test.YthogemdknlpnpaaXAx0
import Derived.Test.YthogemdknlpnpaaXAx4
import Derived.Test.YthogemdknlpnpaaXAx12
import Derived.Test.YthogemdknlpnpaaHr
import Derived.Test.YthogemdknlpnpaaHa
import Derived.RangeFuncNested
import Derived.RangeFuncBound
import Derived.RangeFuncCalls
import Derived.RangeFuncLeaves
import Derived.Shelf.Abstract
import Derived.OwnWalkIn
import Derived.TacticsInMore
import Derived.LoopNIn
import Derived.LoopIn
namespace Go.Proofs.Ythogemdknlpnpaa.XA
open Go.RowKit Go.Shelf Go.Proofs.Ythogemdknlpnpaa.Opens Go.Proofs.YthogemdknlpnpaaW.PrintWords Go.Proofs.YthogemdknlpnpaaW.PrintLast Go.Proofs.YthogemdknlpnpaaW.PrintMore
attribute [local go_sem] Oper.semAt_some
set_option linter.unusedVariables false
set_option linter.unusedSimpArgs false

theorem divides_go {l1 : List S60} {a b c d : Int} : ∀ (k : Nat) (i : Int), 0 ≤ i → i ≤ l1.length → (l1.length : Int) - i < k → l1.length < 4611686018427387904 → ∃ r, prism_divides.l0 k l1 (l1.length : Int) i a b c d = some r
  | 0, i, h0, hi, h1, _ => absurd h1 (by omega)
  | k + 1, i, h0, hi, h1, hl => by
    unfold prism_divides.l0
    by_cases h : i < (l1.length : Int)
    · rw [if_pos h, if_pos h0, if_pos h]
      simp only [prism_cross.f, Option.bind_some]
      split
      · exact ⟨_, rfl⟩
      · rw [show wrap64 (i + 1) = i + 1 by unfold wrap64; omega]
        exact divides_go k (i + 1) (by omega) (by omega) (by omega) hl
    · rw [if_neg h]
      exact ⟨_, rfl⟩
theorem divides_some (l1 : List S60) (a b c d : Int) (k : Nat) (h : l1.length < k) (hl : l1.length < 4611686018427387904) : ∃ r, prism_divides.f k a b c d l1 = some r := divides_go k 0 (by omega) (by omega) (by omega) hl
def edg (k : Nat) (l1 : List S60) : List Ed → Option Int
  | [] => some (-1)
  | e :: es => (prism_divides.f k e.2.1.f0 e.2.1.f1 e.2.2.f0 e.2.2.f1 l1).bind fun b => if b = true then some (e.1.val : Int) else edg k l1 es
def prism_edge.f (k : Nat) (l0 l1 : List S60) : Option Int := if (0 < l0.length ∧ l0.length < 1000) ∧ l1.length < k ∧ l1.length < 1000 then edg k l1 (edge_upto l0 l0.length) else none
theorem edg_mono (k : Nat) (l1 : List S60) : ∀ es, LeO (edg k l1 es) (edg (k + 1) l1 es)
  | [] => LeO.refl _
  | e :: es => by
    unfold edg
    refine LeO.bind (prism_divides.mono _ _ _ _ _ _) (fun b => ?_)
    exact LeO.ite (LeO.refl _) (edg_mono k l1 es)
theorem prism_edge.mono : ∀ a0 a1 k, LeO (prism_edge.f k a0 a1) (prism_edge.f (k + 1) a0 a1) := by
  intro a0 a1 k
  unfold prism_edge.f
  by_cases h : (0 < a0.length ∧ a0.length < 1000) ∧ a1.length < k ∧ a1.length < 1000
  · rw [if_pos h, if_pos ⟨h.1, by omega, h.2.2⟩]
    exact edg_mono _ _ _
  · rw [if_neg h]
    exact LeO.none _

set_option maxRecDepth 100000 in
set_option maxHeartbeats 4000000 in
theorem prism_edge.calls (k : Nat) (A0 : Option Addr) (c0 : Nat) (l0 : List S60) (A1 : Option Addr) (c1 : Nat) (l1 : List S60) (r : Int) (w : World) (hr0 : Kd.C k60 w A0 l0.length l0) (hc0 : l0.length ≤ c0) (hr1 : Kd.C k60 w A1 l1.length l1) (hc1 : l1.length ≤ c1) (h : prism_edge.f k l0 l1 = some r) :
    Calls Try.prog 45 #[.slice A0 l0.length c0, .slice A1 l1.length c1] w fun e w' => e = .returned (.int .i64 r) ∧ Below w.heap.size w w' := by
  have hp : (0 < l0.length ∧ l0.length < 1000) ∧ l1.length < k ∧ l1.length < 1000 := by
    refine Classical.byContradiction fun hp => ?_
    simp [prism_edge.f, hp] at h
  have hr : edg k l1 (edge_upto l0 l0.length) = some r := by rw [prism_edge.f, if_pos hp] at h; exact h
  clear h
  obtain ⟨⟨hpos, hlen⟩, hk1, hk2⟩ := hp
  refine (callsIn_wide (n := 5)).1 ?_
  refine callsIn_of_wp_marks Try.func45 rfl trivial ?_ rfl
  simp only [Try.ntmps45, List.size_toArray, List.length_cons, List.length_nil, Nat.reduceAdd, Nat.reduceSub, Array.replicate_succ, Array.replicate_zero, List.push_toArray, List.append_toArray, List.nil_append, List.cons_append]
  gi_wp2_with (refine ⟨trivial, ?_⟩; gi_at_call 37; refine (edges_in Fence.wide _ trivial rfl _ _ _ _).mono ?_; rintro e w' ⟨rfl, rfl⟩)
  have bS := ((Boxed.new w 23 (.slice A1 l1.length c1)).alloc (.cells #[.int .i64 0] 3)).alloc (.cells #[.slice A0 l0.length c0] 23)
  have bR := (Boxed.new (w.alloc (.cells #[.slice A1 l1.length c1] 23)) 3 (.int .i64 0)).alloc (.cells #[.slice A0 l0.length c0] 23)
  have bE := Boxed.new ((w.alloc (.cells #[.slice A1 l1.length c1] 23)).alloc (.cells #[.int .i64 0] 3)) 23 (.slice A0 l0.length c0)
  simp only [World.size_alloc] at bR bE
  have hB0 : Below w.heap.size w (((w.alloc (.cells #[.slice A1 l1.length c1] 23)).alloc (.cells #[.int .i64 0] 3)).alloc (.cells #[.slice A0 l0.length c0] 23)) := ((((Below.refl _ w).alloc (Nat.le_refl _) _).alloc (by simp) _).alloc (by simp; omega) _)
  have hsz : (((w.alloc (.cells #[.slice A1 l1.length c1] 23)).alloc (.cells #[.int .i64 0] 3)).alloc (.cells #[.slice A0 l0.length c0] 23)).heap.size = w.heap.size + 3 := by simp
  obtain ⟨W0, hW0⟩ : ∃ W0, ((w.alloc (.cells #[.slice A1 l1.length c1] 23)).alloc (.cells #[.int .i64 0] 3)).alloc (.cells #[.slice A0 l0.length c0] 23) = W0 := ⟨_, rfl⟩
  rw [hW0] at bS bR bE hB0 hsz ⊢
  clear hW0
  refine wpIn_rangeFunc_ownH rfl (by omega) (gf := 49) (lb := #[.pointer (some ⟨w.heap.size + 1 + 1, 0, none⟩)]) rfl trivial (enters_of Try.func49 (by kernel_rfl) rfl)
    (edges_stops (5 - 1) (by omega) (w.heap.size + 1 + 1) w.heap.size A0 c0 l0 w hr0 hpos hlen W0 hB0 (Nat.le_refl _) (by omega) bE.cell (by omega)) KeepB.trans (KeepB.put (by omega) (by omega)) (Below.refl _ _) (fun _ => rfl)
    (fun pre W => (Boxed W (w.heap.size + 1) 3 (.int .i64 0) ∧ Boxed W w.heap.size 23 (.slice A1 l1.length c1) ∧ Boxed W (w.heap.size + 1 + 1) 23 (.slice A0 l0.length c0) ∧ ∀ rest, edg k l1 (pre ++ rest) = edg k l1 rest) ∧ Below w.heap.size w W)
    (fun c pre W => (c = .ret ∧ ∃ v : Int, Boxed W (w.heap.size + 1) 3 (.int .i64 v) ∧ ∀ rest, edg k l1 (pre ++ rest) = some v) ∧ Below w.heap.size w W)
    (OwnFrom.and (Own.from (fun s X Y row hs hg hr => by obtain ⟨h2, h3, h5, h4⟩ := hs; exact ⟨boxed_own _ _ (fun (_ : Unit) => _) () X Y row h2 hg hr, boxed_own _ _ (fun (_ : Unit) => _) () X Y row h3 hg hr, boxed_own _ _ (fun (_ : Unit) => _) () X Y row h5 hg hr, h4⟩) _) (ownFrom_below (Nat.le_refl _) (by omega)))
    (fun c => OwnFrom.and (Own.from (fun s X Y row hs hg hr => by obtain ⟨hc, v, h2, h4⟩ := hs; exact ⟨hc, v, boxed_own _ _ (fun (_ : Unit) => _) () X Y row h2 hg hr, h4⟩) _) (ownFrom_below (Nat.le_refl _) (by omega)))
    ⟨⟨bR, bS, bE, fun _ => rfl⟩, hB0⟩
    (fun x a' W => ∃ Bx, w.heap.size + 3 ≤ Bx ∧ Blk W Bx #[.int .i64 x.2.1.f0, .int .i64 x.2.1.f1, .int .i64 x.2.2.f0, .int .i64 x.2.2.f1] 66 ∧ a' = { tmps := #[.slice A0 l0.length c0, .slice A1 l1.length c1, undef, .pointer (some ⟨w.heap.size, 0, none⟩), .pointer (some ⟨w.heap.size + 1, 0, none⟩), .int .i64 (x.1.val : Int), .pointer (some ⟨Bx, 0, none⟩), .slice A0 l0.length c0, .func (.func 49) #[] #[.pointer (some ⟨w.heap.size + 1 + 1, 0, none⟩)], .int .i64 (x.1.val : Int), .agg #[.int .i64 x.2.1.f0, .int .i64 x.2.1.f1, .int .i64 x.2.2.f0, .int .i64 x.2.2.f1], undef, undef, undef, undef], defers := [] })
    (fun x a' _ X Y row hs hg hr => by obtain ⟨Bx, h1, h2, h3⟩ := hs; exact ⟨Bx, h1, Blk.own Bx (fun (_ : Unit) => _) 66 () X Y row h2 hg (fun r e => (hr r e).2), h3⟩)
    ?assign ?body ?done ?stop
  case assign =>
    rintro l pre x W K ⟨⟨bR1, bS1, bE1, hcv⟩, hB1⟩ hK
    dsimp only [edge_enc]
    gi_wp2
    have hlW : w.heap.size + 1 + 1 < W.heap.size := bE1.lt
    exact hK _ _ ((KeepsOthers.alloc _ _).from _) ⟨(Below.refl _ W).alloc hB1.size _, (bE1.alloc _).trans (Eq.symm bE1)⟩ ⟨⟨bR1.alloc _, bS1.alloc _, bE1.alloc _, hcv⟩, hB1.alloc hB1.size _⟩ ⟨W.heap.size, by omega, World.alloc_heap_new W _, rfl⟩
  case body =>
    rintro l pre x a' W hl ⟨r', hrl⟩ ⟨⟨bR1, bS1, bE1, hcv⟩, hB1⟩ ⟨Bx, hBx, bX, rfl⟩ hlt
    have hNx : Bx < W.heap.size := (Array.getElem?_eq_some_iff.1 bX).1
    have cX0 : W.cell? ⟨Bx, 0, none⟩ = some (.int .i64 x.2.1.f0) := (blk_cell bX 0).trans rfl
    have cX1 : W.cell? ⟨Bx, 1, none⟩ = some (.int .i64 x.2.1.f1) := (blk_cell bX 1).trans rfl
    have cX2 : W.cell? ⟨Bx, 2, none⟩ = some (.int .i64 x.2.2.f0) := (blk_cell bX 2).trans rfl
    have cX3 : W.cell? ⟨Bx, 3, none⟩ = some (.int .i64 x.2.2.f1) := (blk_cell bX 3).trans rfl
    have cS := bS1.cell
    obtain ⟨b, hb⟩ := divides_some l1 x.2.1.f0 x.2.1.f1 x.2.2.f0 x.2.2.f1 k hk1 (by omega)
    have hstep : ∀ rest, edg k l1 (pre ++ [x] ++ rest) = if b = true then some (x.1.val : Int) else edg k l1 rest := fun rest => by
      rw [List.append_assoc, hcv]
      simp only [List.singleton_append, edg, hb, Option.bind_some]
    have h1' : 1 ≤ 5 - 1 - 1 := by omega
    have hW : Kd.C k60 W A1 l1.length l1 := Kd.C_below hr1 hB1
    cases b with
    | true =>
      gi_wp2_with (refine ⟨trivial, ?_⟩; gi_at_call 51; refine (CallsIn.inRound l (callsIn_wide.2 (prism_divides.calls k x.2.1.f0 x.2.1.f1 x.2.2.f0 x.2.2.f1 A1 c1 l1 true _ hW hc1 hb))).mono ?_; rintro e w1 ⟨rfl, hb1⟩; have rR := boxed_past hb1 bR1; have rc := rR.cell; have rf := rR.frozen)
      exact ⟨((others_of_below hb1).trans (KeepsOthers.setCell _ _ _)).from _, ⟨rfl, _, rR.set _, fun rest => by rw [hstep]; rfl⟩, (hB1.trans (hb1.mono hB1.size)).setCell (p := ⟨w.heap.size + 1, 0, none⟩) (by simp) _⟩
    | false =>
      gi_wp2_with (refine ⟨trivial, ?_⟩; gi_at_call 51; refine (CallsIn.inRound l (callsIn_wide.2 (prism_divides.calls k x.2.1.f0 x.2.1.f1 x.2.2.f0 x.2.2.f1 A1 c1 l1 false _ hW hc1 hb))).mono ?_; rintro e w1 ⟨rfl, hb1⟩)
      exact ⟨(others_of_below hb1).from _, ⟨hb1.mono hB1.size, (boxed_past hb1 bE1).trans (Eq.symm bE1)⟩, ⟨boxed_past hb1 bR1, boxed_past hb1 bS1, boxed_past hb1 bE1, fun rest => by rw [hstep]; rfl⟩, hB1.trans (hb1.mono hB1.size)⟩
  case done =>
    rintro D ys W hD rfl ⟨⟨bR1, bS1, bE1, hcv⟩, hB1⟩ hK
    have rc := bR1.cell
    have rf := bR1.frozen
    have hfin : (-1 : Int) = r := by
      have := hcv []
      rw [List.append_nil, hr] at this
      exact (Option.some.inj this).symm
    subst hfin
    gi_wp2
    have hK' := (KeepsOthers.setCell W ⟨w.heap.size + 1, 0, none⟩ (.int .i64 (-1))).same D _ hK rfl
    have hc5 := cell_kept (World.cell?_setCell_same' W ⟨w.heap.size + 1, 0, none⟩ (.int .i64 (-1)) (by rw [rc]; rfl)) (grownBy_putObj' _ D (.deferred none)) (fun r e => by cases e; exact ⟨_, hK', rfl⟩)
    refine ⟨by simp, .inl ⟨_, _, rfl, run_takeDeferred hK', ?_⟩⟩
    refine ⟨.int .i64 (-1), ?_, ⟨rfl, (hB1.setCell (p := ⟨w.heap.size + 1, 0, none⟩) (by simp) _).trans (belowK_b (w := w) (Nat.le_refl _) _ D _ _ (by omega) hK' rfl rfl)⟩⟩
    simp [results, Try.f45, go_sem, hc5]
  case stop =>
    rintro D c pre W hD ⟨k, hk, rfl⟩ ⟨⟨rfl, v, bR1, hcv⟩, hB1⟩ hK
    have hrf : r = v := by
      rw [show edge_upto l0 l0.length = edge_upto l0 k ++ (edge_upto l0 l0.length).drop k by
        conv => lhs; rw [← List.take_append_drop k (edge_upto l0 l0.length)]
        congr 1
        simp [edge_upto, ← List.map_take, List.take_range, Nat.min_eq_left hk], hcv] at hr
      exact (Option.some.inj hr).symm
    subst hrf
    have rc := bR1.cell
    gi_wp2
    have hc5 := cell_kept rc (grownBy_putObj' _ D (.deferred none)) (fun r e => by cases e; exact ⟨_, hK, rfl⟩)
    refine ⟨by simp, .inl ⟨_, _, rfl, run_takeDeferred hK, ?_⟩⟩
    refine ⟨.int .i64 r, ?_, rfl, hB1.trans (belowK_b (w := w) (Nat.le_refl _) W D _ _ (by omega) hK rfl rfl)⟩
    simp [results, Try.f45, go_sem, hc5]
end Go.Proofs.Ythogemdknlpnpaa.XA
