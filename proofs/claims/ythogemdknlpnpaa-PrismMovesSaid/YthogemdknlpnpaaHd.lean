import Derived.Test.YthogemdknlpnpaaXAx0
import Derived.Test.YthogemdknlpnpaaXAx6
import Derived.Test.YthogemdknlpnpaaHr
import Derived.Test.YthogemdknlpnpaaHa
import Derived.RangeFuncNested
import Derived.RangeFuncBound
import Derived.RangeFuncCalls
import Derived.RangeFuncLeaves
import Derived.Shelf.Abstract
import Derived.OwnWalkIn
import Derived.TacticsInMore
import Derived.LoopNIn
import Derived.LoopIn
namespace Go.Proofs.Ythogemdknlpnpaa.XA
open Go.RowKit Go.Shelf Go.Proofs.Ythogemdknlpnpaa.Opens Go.Proofs.YthogemdknlpnpaaW.PrintWords Go.Proofs.YthogemdknlpnpaaW.PrintLast Go.Proofs.YthogemdknlpnpaaW.PrintMore
attribute [local go_sem] Oper.semAt_some
set_option linter.unusedVariables false
set_option linter.unusedSimpArgs false

def ar : List Ed → Int → Int
  | [], n => n
  | e :: es, n => ar es (wrap64 (n + wrap64 (wrap64 (e.2.1.f0 * e.2.2.f1) - wrap64 (e.2.2.f0 * e.2.1.f1))))
def prism_Area2.f (k : Nat) (l0 : List S60) (a1 a2 : Int) : Option (Int × Int) := (prism_Check.f k l0 a1 a2).bind fun t => if t = 0 then (if 0 < l0.length ∧ l0.length < 1000 then some (ar (edge_upto l0 l0.length) 0, 0) else none) else some (0, t)
theorem prism_Area2.mono : ∀ a0 a1 a2 k, LeO (prism_Area2.f k a0 a1 a2) (prism_Area2.f (k + 1) a0 a1 a2) := by
  intro a0 a1 a2 k
  unfold prism_Area2.f
  exact LeO.bind (prism_Check.mono _ _ _ _) (fun _ => LeO.refl _)

set_option maxRecDepth 100000 in
set_option maxHeartbeats 4000000 in
theorem prism_Area2.calls (k : Nat) (A0 : Option Addr) (c0 : Nat) (l0 : List S60) (a1 : Int) (a2 : Int) (r1 : Int) (r2 : Int) (w : World) (hr0 : Kd.C k60 w A0 l0.length l0) (hc0 : l0.length ≤ c0) (h : prism_Area2.f k l0 a1 a2 = some (r1, r2)) :
    Calls Try.prog 13 #[.agg #[.slice A0 l0.length c0, .int .i64 a1, .int .i64 a2]] w fun e w' => e = .returned (.tuple #[.int .i64 r1, .int .i64 r2]) ∧ Below w.heap.size w w' := by
  obtain ⟨tc, hchk, h⟩ := Option.bind_eq_some_iff.mp h
  have hCw : Kd.C k60 (w.alloc (.cells #[.slice A0 l0.length c0, .int .i64 a1, .int .i64 a2] 25)) A0 l0.length l0 := Kd.C_below hr0 ((Below.refl _ w).alloc (Nat.le_refl _) _)
  have hB1 : Below w.heap.size w (w.alloc (.cells #[.slice A0 l0.length c0, .int .i64 a1, .int .i64 a2] 25)) := (Below.refl _ w).alloc (Nat.le_refl _) _
  have bP : Blk (w.alloc (.cells #[.slice A0 l0.length c0, .int .i64 a1, .int .i64 a2] 25)) w.heap.size #[.slice A0 l0.length c0, .int .i64 a1, .int .i64 a2] 25 := World.alloc_heap_new w _
  refine (callsIn_wide (n := 5)).1 ?_
  refine callsIn_of_wp_marks Try.func13 rfl trivial ?_ rfl
  simp only [Try.ntmps13, List.size_toArray, List.length_cons, List.length_nil, Nat.reduceAdd, Nat.reduceSub, Array.replicate_succ, Array.replicate_zero, List.push_toArray, List.append_toArray, List.nil_append, List.cons_append]
  by_cases ht : tc = 0
  · subst ht
    rw [if_pos rfl] at h
    have hp : 0 < l0.length ∧ l0.length < 1000 := by
      refine Classical.byContradiction fun hp => ?_
      simp [hp] at h
    rw [if_pos hp] at h
    obtain ⟨hpos, hlen⟩ := hp
    simp only [Option.some.injEq, Prod.mk.injEq] at h
    obtain ⟨hr, rfl⟩ := h
    gi_wp2_with (first | (refine ⟨trivial, ?_⟩; gi_at_call 14; refine (callsIn_wide.2 (prism_Check.calls k A0 c0 l0 a1 a2 0 _ hCw hc0 hchk)).mono ?_; rintro e w1 ⟨rfl, hb1⟩; have bP1 := blk_past hb1 bP; have p0 : w1.cell? ⟨w.heap.size, 0, none⟩ = some (.slice A0 l0.length c0) := (blk_cell bP1 0).trans rfl; have p1 : (w1.alloc (.cells #[.int .i64 0] 3)).cell? ⟨w.heap.size, 0, none⟩ = some (.slice A0 l0.length c0) := (blk_cell (blk_alloc bP1 _) 0).trans rfl) | (refine ⟨trivial, ?_⟩; gi_at_call 37; refine (edges_in Fence.wide _ trivial rfl _ _ _ _).mono ?_; rintro e w' ⟨rfl, rfl⟩))
    have bN := (Boxed.new w1 3 (.int .i64 0)).alloc (.cells #[.slice A0 l0.length c0] 23)
    have bE := Boxed.new (w1.alloc (.cells #[.int .i64 0] 3)) 23 (.slice A0 l0.length c0)
    simp only [World.size_alloc] at bE
    have hs1 : w.heap.size + 1 ≤ w1.heap.size := by have := hb1.size; simpa using this
    have hB0 : Below w.heap.size w ((w1.alloc (.cells #[.int .i64 0] 3)).alloc (.cells #[.slice A0 l0.length c0] 23)) := ((hB1.trans (hb1.mono (by simp))).alloc (by omega) _).alloc (by simp; omega) _
    have hsz : ((w1.alloc (.cells #[.int .i64 0] 3)).alloc (.cells #[.slice A0 l0.length c0] 23)).heap.size = w1.heap.size + 2 := by simp
    obtain ⟨W0, hW0⟩ : ∃ W0, (w1.alloc (.cells #[.int .i64 0] 3)).alloc (.cells #[.slice A0 l0.length c0] 23) = W0 := ⟨_, rfl⟩
    rw [hW0] at bN bE hB0 hsz ⊢
    clear hW0 p1
    refine wpIn_rangeFunc_ownH rfl (by omega) (gf := 49) (lb := #[.pointer (some ⟨w1.heap.size + 1, 0, none⟩)]) rfl trivial (enters_of Try.func49 (by kernel_rfl) rfl)
      (edges_stops (5 - 1) (by omega) (w1.heap.size + 1) w.heap.size A0 c0 l0 w hr0 hpos hlen W0 hB0 (Nat.le_refl _) (by omega) bE.cell (by omega)) KeepB.trans (KeepB.put (by omega) (by omega)) (Below.refl _ _) (fun _ => rfl)
      (fun pre W => (∃ t : Int, Boxed W w1.heap.size 3 (.int .i64 t) ∧ Boxed W (w1.heap.size + 1) 23 (.slice A0 l0.length c0) ∧ ∀ rest, ar (pre ++ rest) 0 = ar rest t) ∧ Below w.heap.size w W)
      (fun _ _ _ => False)
      (OwnFrom.and (Own.from (fun s X Y row hs hg hr => by obtain ⟨t, h1, h5, h4⟩ := hs; exact ⟨t, boxed_own _ _ (fun (_ : Unit) => _) () X Y row h1 hg hr, boxed_own _ _ (fun (_ : Unit) => _) () X Y row h5 hg hr, h4⟩) _) (ownFrom_below (Nat.le_refl _) (by omega)))
      (fun _ _ _ _ _ hs _ _ => hs)
      ⟨⟨0, bN, bE, fun _ => rfl⟩, hB0⟩
      (fun x a' W => ∃ Bx, w1.heap.size + 2 ≤ Bx ∧ Blk W Bx #[.int .i64 x.2.1.f0, .int .i64 x.2.1.f1, .int .i64 x.2.2.f0, .int .i64 x.2.2.f1] 66 ∧ a' = { tmps := #[.agg #[.slice A0 l0.length c0, .int .i64 a1, .int .i64 a2], .pointer (some ⟨w.heap.size, 0, none⟩), .int .i64 0, .int .i64 0, .int .i64 0, .pointer (some ⟨w1.heap.size, 0, none⟩), undef, .pointer (some ⟨Bx, 0, none⟩), .agg #[.slice A0 l0.length c0, .int .i64 a1, .int .i64 a2], .int .i64 0, .int .i64 0, .bool false, undef, .pointer (some ⟨w.heap.size, 0, none⟩), .slice A0 l0.length c0, .func (.func 49) #[] #[.pointer (some ⟨w1.heap.size + 1, 0, none⟩)], .int .i64 (x.1.val : Int), .agg #[.int .i64 x.2.1.f0, .int .i64 x.2.1.f1, .int .i64 x.2.2.f0, .int .i64 x.2.2.f1], undef, undef, undef, undef, undef, undef, undef, undef, undef, undef, undef, undef, undef, undef, undef, undef, undef, undef], defers := [] })
      (fun x a' _ X Y row hs hg hr => by obtain ⟨Bx, h1, h2, h3⟩ := hs; exact ⟨Bx, h1, Blk.own Bx (fun (_ : Unit) => _) 66 () X Y row h2 hg (fun r e => (hr r e).2), h3⟩)
      ?assign ?body ?done ?stop
    case assign =>
      rintro l pre x W K ⟨⟨t, bN1, bE1, hcv⟩, hB1'⟩ hK
      dsimp only [edge_enc]
      gi_wp2
      have hlW : w1.heap.size + 1 < W.heap.size := bE1.lt
      exact hK _ _ ((KeepsOthers.alloc _ _).from _) ⟨(Below.refl _ W).alloc hB1'.size _, (bE1.alloc _).trans (Eq.symm bE1)⟩ ⟨⟨t, bN1.alloc _, bE1.alloc _, hcv⟩, hB1'.alloc hB1'.size _⟩ ⟨W.heap.size, by omega, World.alloc_heap_new W _, rfl⟩
    case body =>
      rintro l pre x a' W hl ⟨r', hrl⟩ ⟨⟨t, bN1, bE1, hcv⟩, hB1'⟩ ⟨Bx, hBx, bX, rfl⟩ hlt
      have cX0 : W.cell? ⟨Bx, 0, none⟩ = some (.int .i64 x.2.1.f0) := (blk_cell bX 0).trans rfl
      have cX1 : W.cell? ⟨Bx, 1, none⟩ = some (.int .i64 x.2.1.f1) := (blk_cell bX 1).trans rfl
      have cX2 : W.cell? ⟨Bx, 2, none⟩ = some (.int .i64 x.2.2.f0) := (blk_cell bX 2).trans rfl
      have cX3 : W.cell? ⟨Bx, 3, none⟩ = some (.int .i64 x.2.2.f1) := (blk_cell bX 3).trans rfl
      have nc := bN1.cell
      have nf := bN1.frozen
      gi_wp2
      refine ⟨(KeepsOthers.setCell _ _ _).from _, ⟨(Below.refl _ W).setCell (p := ⟨w1.heap.size, 0, none⟩) (by simp; omega) _, (bE1.other (show w1.heap.size + 1 ≠ w1.heap.size by omega) _).trans (Eq.symm bE1)⟩, ⟨_, bN1.set _, bE1.other (show w1.heap.size + 1 ≠ w1.heap.size by omega) _, fun rest => ?_⟩, hB1'.setCell (p := ⟨w1.heap.size, 0, none⟩) (by simp; omega) _⟩
      rw [List.append_assoc, hcv]
      rfl
    case done =>
      rintro D ys W hD rfl ⟨⟨t, bN1, bE1, hcv⟩, hB1'⟩ hK
      have nc := bN1.cell
      have hfin : t = r1 := by
        have := hcv []
        rw [List.append_nil, hr] at this
        exact this.symm
      subst hfin
      gi_wp2
      refine ⟨by simp, .inl ⟨_, _, rfl, run_takeDeferred hK, ?_⟩⟩
      refine ⟨.tuple #[.int .i64 t, .int .i64 0], ?_, rfl, hB1'.trans (belowK_b (w := w) (Nat.le_refl _) W D _ _ (by omega) hK rfl rfl)⟩
      simp [results, Try.f13, go_sem]
    case stop =>
      rintro D c pre W hD _ h _
      exact h.elim
  · rw [if_neg ht] at h
    simp only [Option.some.injEq, Prod.mk.injEq] at h
    obtain ⟨rfl, rfl⟩ := h
    have ht1 : (tc != 0) = true := bne_iff_ne.mpr ht
    have ht2 : (tc == 0) = false := beq_eq_false_iff_ne.mpr ht
    gi_wp2_with (refine ⟨trivial, ?_⟩; gi_at_call 14; refine (callsIn_wide.2 (prism_Check.calls k A0 c0 l0 a1 a2 tc _ hCw hc0 hchk)).mono ?_; rintro e w1 ⟨rfl, hb1⟩)
    refine ⟨.tuple #[.int .i64 0, .int .i64 tc], ?_, rfl, hB1.trans (hb1.mono (by simp))⟩
    simp [results, Try.f13, go_sem]
end Go.Proofs.Ythogemdknlpnpaa.XA
