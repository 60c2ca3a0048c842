import Derived.Test.YthogemdknlpnpaaXAx0
import Derived.Test.YthogemdknlpnpaaXAx4
import Derived.Test.YthogemdknlpnpaaXAx11
import Derived.Test.YthogemdknlpnpaaXAx14
import Derived.Test.YthogemdknlpnpaaHr
import Derived.Test.YthogemdknlpnpaaHa
import Derived.RangeFuncNested
import Derived.RangeFuncBound
import Derived.RangeFuncCalls
import Derived.RangeFuncLeaves
import Derived.Shelf.Abstract
import Derived.OwnWalkIn
import Derived.TacticsInMore
import Derived.LoopNIn
import Derived.LoopIn
namespace Go.Proofs.Ythogemdknlpnpaa.XA
open Go.RowKit Go.Shelf Go.Proofs.Ythogemdknlpnpaa.Opens Go.Proofs.YthogemdknlpnpaaW.PrintWords Go.Proofs.YthogemdknlpnpaaW.PrintLast Go.Proofs.YthogemdknlpnpaaW.PrintMore
attribute [local go_sem] Oper.semAt_some
set_option linter.unusedVariables false
set_option linter.unusedSimpArgs false

def cr (e : Ed) (c : S60) : Int := (prism_cross.f e.2.1.f0 e.2.1.f1 e.2.2.f0 e.2.2.f1 c.f0 c.f1).getD 0
def inn (e : Ed) (L : List S60) : Bool := L.all fun c => !decide (cr e c < 0)
def covE (L : List S60) (es : List Ed) : Bool := es.all fun e => inn e L
def prism_Covers.f (k : Nat) (l0 : List S60) (a1 a2 b0 b1 b2 b3 b4 b5 : Int) : Option (Bool × Int) := (prism_both.f k l0 a1 a2 b0 b1 b2 b3 b4 b5).bind fun t => if t = 0 then (if 0 < l0.length ∧ l0.length < 1000 then some (covE [⟨b0, b1⟩, ⟨b3, b1⟩, ⟨b3, b4⟩, ⟨b0, b4⟩] (edge_upto l0 l0.length) && (decide (a1 ≤ b2) && decide (b5 ≤ a2)), 0) else none) else some (false, t)
theorem prism_Covers.mono : ∀ a0 a1 a2 b0 b1 b2 b3 b4 b5 k, LeO (prism_Covers.f k a0 a1 a2 b0 b1 b2 b3 b4 b5) (prism_Covers.f (k + 1) a0 a1 a2 b0 b1 b2 b3 b4 b5) := by
  intro a0 a1 a2 b0 b1 b2 b3 b4 b5 k
  unfold prism_Covers.f
  exact LeO.bind (prism_both.mono _ _ _ _ _ _ _ _ _ _) (fun _ => LeO.refl _)

theorem fx25 (x0 x1 x2 : Value) (w : World) : (Instr.field 25 (.agg #[x0, x1, x2]) 0).run Try.prog w = .ok x0 w := by kernel_rfl
theorem covE_app (L : List S60) (p q : List Ed) : covE L (p ++ q) = (covE L p && covE L q) := by simp [covE]
set_option maxRecDepth 100000 in
set_option maxHeartbeats 8000000 in
theorem prism_Covers.calls (k : Nat) (A0 : Option Addr) (c0 : Nat) (l0 : List S60) (a1 : Int) (a2 : Int) (b0 : Int) (b1 : Int) (b2 : Int) (b3 : Int) (b4 : Int) (b5 : Int) (r1 : Bool) (r2 : Int) (w : World) (hr0 : Kd.C k60 w A0 l0.length l0) (hc0 : l0.length ≤ c0) (h : prism_Covers.f k l0 a1 a2 b0 b1 b2 b3 b4 b5 = some (r1, r2)) :
    Calls Try.prog 18 #[.agg #[.slice A0 l0.length c0, .int .i64 a1, .int .i64 a2], .agg #[.int .i64 b0, .int .i64 b1, .int .i64 b2, .int .i64 b3, .int .i64 b4, .int .i64 b5]] w fun e w' => e = .returned (.tuple #[.bool r1, .int .i64 r2]) ∧ Below w.heap.size w w' := by
  obtain ⟨tc, hchk, h⟩ := Option.bind_eq_some_iff.mp h
  have hB1 : Below w.heap.size w ((((w.alloc (.cells #[.slice A0 l0.length c0, .int .i64 a1, .int .i64 a2] 25)).alloc (.cells #[.int .i64 b0, .int .i64 b1, .int .i64 b2, .int .i64 b3, .int .i64 b4, .int .i64 b5] 32)).alloc (.cells #[.bool false] 4)).alloc (.cells #[.int .i64 0] 27)) := (((((Below.refl _ w).alloc (Nat.le_refl _) _).alloc (by simp) _).alloc (by simp; omega) _).alloc (by simp; omega) _)
  have hCw := Kd.C_below hr0 hB1
  have bP : Blk ((((w.alloc (.cells #[.slice A0 l0.length c0, .int .i64 a1, .int .i64 a2] 25)).alloc (.cells #[.int .i64 b0, .int .i64 b1, .int .i64 b2, .int .i64 b3, .int .i64 b4, .int .i64 b5] 32)).alloc (.cells #[.bool false] 4)).alloc (.cells #[.int .i64 0] 27)) w.heap.size #[.slice A0 l0.length c0, .int .i64 a1, .int .i64 a2] 25 := blk_alloc (blk_alloc (blk_alloc (World.alloc_heap_new w _) _) _) _
  have bB : Blk ((((w.alloc (.cells #[.slice A0 l0.length c0, .int .i64 a1, .int .i64 a2] 25)).alloc (.cells #[.int .i64 b0, .int .i64 b1, .int .i64 b2, .int .i64 b3, .int .i64 b4, .int .i64 b5] 32)).alloc (.cells #[.bool false] 4)).alloc (.cells #[.int .i64 0] 27)) (w.heap.size + 1) #[.int .i64 b0, .int .i64 b1, .int .i64 b2, .int .i64 b3, .int .i64 b4, .int .i64 b5] 32 := blk_alloc (blk_alloc (by have := World.alloc_heap_new (w.alloc (.cells #[.slice A0 l0.length c0, .int .i64 a1, .int .i64 a2] 25)) (.cells #[.int .i64 b0, .int .i64 b1, .int .i64 b2, .int .i64 b3, .int .i64 b4, .int .i64 b5] 32); rwa [World.size_alloc] at this) _) _
  have bR : Boxed ((((w.alloc (.cells #[.slice A0 l0.length c0, .int .i64 a1, .int .i64 a2] 25)).alloc (.cells #[.int .i64 b0, .int .i64 b1, .int .i64 b2, .int .i64 b3, .int .i64 b4, .int .i64 b5] 32)).alloc (.cells #[.bool false] 4)).alloc (.cells #[.int .i64 0] 27)) (w.heap.size + 1 + 1) 4 (.bool false) := blk_alloc (by have := World.alloc_heap_new ((w.alloc (.cells #[.slice A0 l0.length c0, .int .i64 a1, .int .i64 a2] 25)).alloc (.cells #[.int .i64 b0, .int .i64 b1, .int .i64 b2, .int .i64 b3, .int .i64 b4, .int .i64 b5] 32)) (.cells #[.bool false] 4); rwa [World.size_alloc, World.size_alloc] at this) _
  have bF : Boxed ((((w.alloc (.cells #[.slice A0 l0.length c0, .int .i64 a1, .int .i64 a2] 25)).alloc (.cells #[.int .i64 b0, .int .i64 b1, .int .i64 b2, .int .i64 b3, .int .i64 b4, .int .i64 b5] 32)).alloc (.cells #[.bool false] 4)).alloc (.cells #[.int .i64 0] 27)) (w.heap.size + 1 + 1 + 1) 27 (.int .i64 0) := by have := World.alloc_heap_new (((w.alloc (.cells #[.slice A0 l0.length c0, .int .i64 a1, .int .i64 a2] 25)).alloc (.cells #[.int .i64 b0, .int .i64 b1, .int .i64 b2, .int .i64 b3, .int .i64 b4, .int .i64 b5] 32)).alloc (.cells #[.bool false] 4)) (.cells #[.int .i64 0] 27); rwa [World.size_alloc, World.size_alloc, World.size_alloc] at this
  refine (callsIn_wide (n := 5)).1 ?_
  refine callsIn_of_wp_marks Try.func18 rfl trivial ?_ rfl
  simp only [Try.ntmps18, List.size_toArray, List.length_cons, List.length_nil, Nat.reduceAdd, Nat.reduceSub, Array.replicate_succ, Array.replicate_zero, List.push_toArray, List.append_toArray, List.nil_append, List.cons_append]
  by_cases ht : tc = 0
  · subst ht
    rw [if_pos rfl] at h
    have hp : 0 < l0.length ∧ l0.length < 1000 := by
      refine Classical.byContradiction fun hp => ?_
      simp [hp] at h
    rw [if_pos hp] at h
    obtain ⟨hpos, hlen⟩ := hp
    simp only [Option.some.injEq, Prod.mk.injEq] at h
    obtain ⟨hr, rfl⟩ := h
    gi_wp2_with (first | (refine ⟨trivial, ?_⟩; gi_at_call 41; refine (callsIn_wide.2 (prism_both.calls k A0 c0 l0 a1 a2 b0 b1 b2 b3 b4 b5 0 _ hCw hc0 hchk)).mono ?_; rintro e w1 ⟨rfl, hb1⟩; have bP1 := blk_past hb1 bP; have p0 : w1.cell? ⟨w.heap.size, 0, none⟩ = some (.slice A0 l0.length c0) := (blk_cell bP1 0).trans rfl) | (refine ⟨trivial, ?_⟩; gi_at_call 37; refine (edges_in Fence.wide _ trivial rfl _ _ _ _).mono ?_; rintro e w' ⟨rfl, rfl⟩))
    have rP := blk_past hb1 bP
    have rB := blk_past hb1 bB
    have rR := boxed_past hb1 bR
    have rF := boxed_past hb1 bF
    have hs1 : w.heap.size + 1 + 1 + 1 < w1.heap.size := rF.lt
    have bE := Boxed.new w1 23 (.slice A0 l0.length c0)
    have hB0 : Below w.heap.size w (w1.alloc (.cells #[.slice A0 l0.length c0] 23)) := (hB1.trans (hb1.mono (by simp; omega))).alloc (by omega) _
    have hsz : (w1.alloc (.cells #[.slice A0 l0.length c0] 23)).heap.size = w1.heap.size + 1 := by simp
    replace rP : Blk (w1.alloc (.cells #[.slice A0 l0.length c0] 23)) _ _ _ := blk_alloc rP _
    replace rB : Blk (w1.alloc (.cells #[.slice A0 l0.length c0] 23)) _ _ _ := blk_alloc rB _
    replace rR := rR.alloc (.cells #[.slice A0 l0.length c0] 23)
    replace rF := rF.alloc (.cells #[.slice A0 l0.length c0] 23)
    obtain ⟨W0, hW0⟩ : ∃ W0, w1.alloc (.cells #[.slice A0 l0.length c0] 23) = W0 := ⟨_, rfl⟩
    rw [hW0] at rP rB rR rF bE hB0 hsz ⊢
    clear hW0
    have hof : prism_of.f b0 b1 b2 b3 b4 b5 = some ([⟨b0, b1⟩, ⟨b3, b1⟩, ⟨b3, b4⟩, ⟨b0, b4⟩], b2, b5) := rfl
    obtain ⟨L, hL⟩ : ∃ L : List S60, [⟨b0, b1⟩, ⟨b3, b1⟩, ⟨b3, b4⟩, ⟨b0, b4⟩] = L := ⟨_, rfl⟩
    have hL4 : L.length = 4 := by rw [← hL]; rfl
    rw [hL] at hr hof
    clear hL
    refine wpIn_rangeFunc_ownH rfl (by omega) (gf := 49) (lb := #[.pointer (some ⟨w1.heap.size, 0, none⟩)]) rfl trivial (enters_of Try.func49 (by kernel_rfl) rfl)
      (edges_stops (5 - 1) (by omega) w1.heap.size w.heap.size A0 c0 l0 w hr0 hpos hlen W0 hB0 (Nat.le_refl _) (by omega) bE.cell (by omega)) KeepB.trans (KeepB.put (by omega) (by omega)) (Below.refl _ _) (fun _ => rfl)
      (fun pre W => (Boxed W (w.heap.size + 1 + 1) 4 (.bool false) ∧ Boxed W (w.heap.size + 1 + 1 + 1) 27 (.int .i64 0) ∧ Blk W w.heap.size #[.slice A0 l0.length c0, .int .i64 a1, .int .i64 a2] 25 ∧ Blk W (w.heap.size + 1) #[.int .i64 b0, .int .i64 b1, .int .i64 b2, .int .i64 b3, .int .i64 b4, .int .i64 b5] 32 ∧ Boxed W w1.heap.size 23 (.slice A0 l0.length c0) ∧ covE L pre = true) ∧ Below w.heap.size w W)
      (fun c pre W => (c = .ret ∧ Boxed W (w.heap.size + 1 + 1) 4 (.bool false) ∧ Boxed W (w.heap.size + 1 + 1 + 1) 27 (.int .i64 0) ∧ covE L pre = false) ∧ Below w.heap.size w W)
      (OwnFrom.and (Own.from (fun s X Y row hs hg hr => by obtain ⟨h1, h2, h3, h4, h5, h6⟩ := hs; exact ⟨boxed_own _ _ (fun (_ : Unit) => _) () X Y row h1 hg hr, boxed_own _ _ (fun (_ : Unit) => _) () X Y row h2 hg hr, Blk.own _ (fun (_ : Unit) => _) _ () X Y row h3 hg hr, Blk.own _ (fun (_ : Unit) => _) _ () X Y row h4 hg hr, boxed_own _ _ (fun (_ : Unit) => _) () X Y row h5 hg hr, h6⟩) _) (ownFrom_below (Nat.le_refl _) (by omega)))
      (fun c => OwnFrom.and (Own.from (fun s X Y row hs hg hr => by obtain ⟨hc, h1, h2, h6⟩ := hs; exact ⟨hc, boxed_own _ _ (fun (_ : Unit) => _) () X Y row h1 hg hr, boxed_own _ _ (fun (_ : Unit) => _) () X Y row h2 hg hr, h6⟩) _) (ownFrom_below (Nat.le_refl _) (by omega)))
      ⟨⟨rR, rF, rP, rB, bE, rfl⟩, hB0⟩
      (fun x a' W => ∃ Bx, w1.heap.size + 1 ≤ Bx ∧ Blk W Bx #[.int .i64 x.2.1.f0, .int .i64 x.2.1.f1, .int .i64 x.2.2.f0, .int .i64 x.2.2.f1] 66 ∧ a' = { tmps := #[.agg #[.slice A0 l0.length c0, .int .i64 a1, .int .i64 a2], .agg #[.int .i64 b0, .int .i64 b1, .int .i64 b2, .int .i64 b3, .int .i64 b4, .int .i64 b5], .pointer (some ⟨w.heap.size, 0, none⟩), .pointer (some ⟨w.heap.size + 1, 0, none⟩), .pointer (some ⟨w.heap.size + 1 + 1, 0, none⟩), .pointer (some ⟨w.heap.size + 1 + 1 + 1, 0, none⟩), .int .i64 0, undef, .pointer (some ⟨Bx, 0, none⟩), undef, undef, .agg #[.slice A0 l0.length c0, .int .i64 a1, .int .i64 a2], .agg #[.int .i64 b0, .int .i64 b1, .int .i64 b2, .int .i64 b3, .int .i64 b4, .int .i64 b5], .int .i64 0, .int .i64 0, .bool false, undef, .pointer (some ⟨w.heap.size, 0, none⟩), .slice A0 l0.length c0, .func (.func 49) #[] #[.pointer (some ⟨w1.heap.size, 0, none⟩)], .int .i64 (x.1.val : Int), .agg #[.int .i64 x.2.1.f0, .int .i64 x.2.1.f1, .int .i64 x.2.2.f0, .int .i64 x.2.2.f1], undef, undef, undef, undef, undef, undef, undef, undef, undef, undef, undef, undef, undef, undef, undef, undef, undef, undef, undef, undef, undef, undef, undef, undef, undef, undef, undef, undef, undef, undef], defers := [] })
      (fun x a' _ X Y row hs hg hr => by obtain ⟨Bx, h1, h2, h3⟩ := hs; exact ⟨Bx, h1, Blk.own Bx (fun (_ : Unit) => _) 66 () X Y row h2 hg (fun r e => (hr r e).2), h3⟩)
      ?assign ?body ?done ?stop
    case assign =>
      rintro l pre x W K ⟨⟨rR1, rF1, rP1, rB1, bE1, hcv⟩, hB1'⟩ hK
      dsimp only [edge_enc]
      gi_wp2
      have hlW : w1.heap.size < W.heap.size := bE1.lt
      exact hK _ _ ((KeepsOthers.alloc _ _).from _) ⟨(Below.refl _ W).alloc hB1'.size _, (bE1.alloc _).trans (Eq.symm bE1)⟩ ⟨⟨rR1.alloc _, rF1.alloc _, blk_alloc rP1 _, blk_alloc rB1 _, bE1.alloc _, hcv⟩, hB1'.alloc hB1'.size _⟩ ⟨W.heap.size, by omega, World.alloc_heap_new W _, rfl⟩
    case body =>
      rintro l pre x a' W hl ⟨r', hrl⟩ ⟨⟨rR1, rF1, rP1, rB1, bE1, hcv⟩, hB1'⟩ ⟨Bx, hBx, bX, rfl⟩ hlt
      have cB0 : W.cell? ⟨w.heap.size + 1, 0, none⟩ = some (.int .i64 b0) := (blk_cell rB1 0).trans rfl
      have cB1 : W.cell? ⟨w.heap.size + 1, 1, none⟩ = some (.int .i64 b1) := (blk_cell rB1 1).trans rfl
      have cB2 : W.cell? ⟨w.heap.size + 1, 2, none⟩ = some (.int .i64 b2) := (blk_cell rB1 2).trans rfl
      have cB3 : W.cell? ⟨w.heap.size + 1, 3, none⟩ = some (.int .i64 b3) := (blk_cell rB1 3).trans rfl
      have cB4 : W.cell? ⟨w.heap.size + 1, 4, none⟩ = some (.int .i64 b4) := (blk_cell rB1 4).trans rfl
      have cB5 : W.cell? ⟨w.heap.size + 1, 5, none⟩ = some (.int .i64 b5) := (blk_cell rB1 5).trans rfl
      have h1' : 1 ≤ 5 - 1 - 1 := by omega
      have hfx := fx25
      gi_wp2_with (refine ⟨trivial, ?_⟩; gi_at_call 43; refine (CallsIn.inRound l (callsIn_wide.2 (prism_of.calls b0 b1 b2 b3 b4 b5 L b2 b5 _ hof))).mono ?_; rintro e w2 ⟨v0, rfl, hv0, hb2⟩; obtain ⟨A2, c2, e2, hl2, hC2⟩ := Kd.R_reads hv0; subst e2)
      have qR := boxed_past hb2 rR1
      have qF := boxed_past hb2 rF1
      have qX := blk_past hb2 bX
      have hNx : Bx < w2.heap.size := (Array.getElem?_eq_some_iff.1 qX).1
      gi_loopw [26] (fun i wr => ∃ m : Nat, m ≤ L.length ∧ i = .int .i64 m ∧ (∀ c ∈ L.take m, ¬ cr x c < 0) ∧ Below w2.heap.size w2 wr) (fun i _ => L.length - (intOf i).toNat)
      case atStart => exact ⟨0, Nat.zero_le _, rfl, by simp, Below.refl _ _⟩
      case round =>
        obtain ⟨m, hm, rfl, hall, hnx⟩ := hrel
        by_cases hlt2 : m < L.length
        · have mb : decide ((m : Int) < (L.length : Int)) = true := decide_eq_true (by omega)
          obtain ⟨ad, e1, hy0, hy1⟩ := at_T60 hC2 (m : Int) (by omega) (by omega)
          cases e1
          rw [Int.toNat_natCast] at hy0 hy1
          obtain ⟨c, hc⟩ : ∃ c, rd_T60 L (m : Int) = c := ⟨_, rfl⟩
          rw [hc] at hy0 hy1
          have hcm : c ∈ L ∧ L.take (m + 1) = L.take m ++ [c] := by
            have e : L[m] = c := by
              rw [← hc]; simp [rd_T60, List.getD_eq_getElem?_getD, hlt2]
            exact ⟨by rw [← e]; exact List.getElem_mem _, by rw [← e]; exact (List.take_append_getElem hlt2).symm⟩
          replace hy0 := (hnx.cell (World.block_lt_of_cell? w2 _ hy0)).trans hy0
          replace hy1 := (hnx.cell (World.block_lt_of_cell? w2 _ hy1)).trans hy1
          have sR := boxed_past hnx qR
          have sF := boxed_past hnx qF
          have sX := blk_past hnx qX
          have tR := sR.alloc (.cells #[.int .i64 c.f0, .int .i64 c.f1] 60)
          have tF := sF.alloc (.cells #[.int .i64 c.f0, .int .i64 c.f1] 60)
          have tX : Blk (wr.alloc (.cells #[.int .i64 c.f0, .int .i64 c.f1] 60)) _ _ _ := blk_alloc sX _
          have tN : Blk (wr.alloc (.cells #[.int .i64 c.f0, .int .i64 c.f1] 60)) wr.heap.size #[.int .i64 c.f0, .int .i64 c.f1] 60 := World.alloc_heap_new wr _
          have cX0 : (wr.alloc (.cells #[.int .i64 c.f0, .int .i64 c.f1] 60)).cell? ⟨Bx, 0, none⟩ = some (.int .i64 x.2.1.f0) := (blk_cell tX 0).trans rfl
          have cX1 : (wr.alloc (.cells #[.int .i64 c.f0, .int .i64 c.f1] 60)).cell? ⟨Bx, 1, none⟩ = some (.int .i64 x.2.1.f1) := (blk_cell tX 1).trans rfl
          have cX2 : (wr.alloc (.cells #[.int .i64 c.f0, .int .i64 c.f1] 60)).cell? ⟨Bx, 2, none⟩ = some (.int .i64 x.2.2.f0) := (blk_cell tX 2).trans rfl
          have cX3 : (wr.alloc (.cells #[.int .i64 c.f0, .int .i64 c.f1] 60)).cell? ⟨Bx, 3, none⟩ = some (.int .i64 x.2.2.f1) := (blk_cell tX 3).trans rfl
          have cN0 : (wr.alloc (.cells #[.int .i64 c.f0, .int .i64 c.f1] 60)).cell? ⟨wr.heap.size, 0, none⟩ = some (.int .i64 c.f0) := (blk_cell tN 0).trans rfl
          have cN1 : (wr.alloc (.cells #[.int .i64 c.f0, .int .i64 c.f1] 60)).cell? ⟨wr.heap.size, 1, none⟩ = some (.int .i64 c.f1) := (blk_cell tN 1).trans rfl
          have hBA : Below wr.heap.size wr (wr.alloc (.cells #[.int .i64 c.f0, .int .i64 c.f1] 60)) := (Below.refl _ wr).alloc (Nat.le_refl _) _
          have hc44 : prism_cross.f x.2.1.f0 x.2.1.f1 x.2.2.f0 x.2.2.f1 c.f0 c.f1 = some (cr x c) := rfl
          obtain ⟨cv, hcv1⟩ : ∃ cv, cr x c = cv := ⟨_, rfl⟩
          rw [hcv1] at hc44
          by_cases hneg : cv < 0
          · have nb : decide (cv < 0) = true := decide_eq_true hneg
            gi_wp2_with (refine ⟨trivial, ?_⟩; gi_at_call 44; refine (CallsIn.inRound l (callsIn_wide.2 (prism_cross.calls x.2.1.f0 x.2.1.f1 x.2.2.f0 x.2.2.f1 c.f0 c.f1 cv _ hc44))).mono ?_; rintro e w3 ⟨rfl, hb3⟩; have uR := boxed_past hb3 tR; have uF := boxed_past hb3 tF; have rc := uR.cell; have rf := uR.frozen; have fc := uF.cell; have ff := uF.frozen)
            have h0 := hB1'.size
            have h1 := hb2.size
            have h2 := hnx.size
            have h3 := hBA.size
            have hin : inn x L = false := by
              unfold inn
              rw [List.all_eq_false]
              exact ⟨c, hcm.1, by simp [hcv1, hneg]⟩
            refine ⟨((others_of_below hb2).trans ((others_of_below hnx).trans ((KeepsOthers.alloc _ _).trans ((others_of_below hb3).trans ((KeepsOthers.setCell _ _ _).trans (KeepsOthers.setCell _ _ _)))))).from _, ⟨rfl, (uR.set _).other (show w.heap.size + 1 + 1 ≠ w.heap.size + 1 + 1 + 1 by omega) _, (uF.other (show w.heap.size + 1 + 1 + 1 ≠ w.heap.size + 1 + 1 by omega) _).set _, ?_⟩, ((((hB1'.trans (hb2.mono (by omega))).trans (hnx.mono (by omega))).trans (hBA.mono (by omega))).trans (hb3.mono (by omega))).setCell (p := ⟨w.heap.size + 1 + 1, 0, none⟩) (by simp; omega) _ |>.setCell (p := ⟨w.heap.size + 1 + 1 + 1, 0, none⟩) (by simp; omega) _⟩
            rw [covE_app]
            simp [covE, hin]
          · have nb : decide (cv < 0) = false := decide_eq_false hneg
            gi_wp2_with (refine ⟨trivial, ?_⟩; gi_at_call 44; refine (CallsIn.inRound l (callsIn_wide.2 (prism_cross.calls x.2.1.f0 x.2.1.f1 x.2.2.f0 x.2.2.f1 c.f0 c.f1 cv _ hc44))).mono ?_; rintro e w3 ⟨rfl, hb3⟩)
            go_roundw
            case measure => simp [intOf]; omega
            case rel => exact ⟨m + 1, by omega, by go_num, fun d hd => by
              rw [hcm.2, List.mem_append, List.mem_singleton] at hd
              rcases hd with hd | rfl
              · have := hall d hd
                omega
              · omega, (hnx.trans (hBA.mono hnx.size)).trans (hb3.mono (Nat.le_trans hnx.size hBA.size))⟩
        · have mb : decide ((m : Int) < (L.length : Int)) = false := decide_eq_false (by omega)
          obtain rfl : m = L.length := by omega
          gi_wp2
          have h0 := hB1'.size
          have h1 := hb2.size
          have h2 := hnx.size
          have hin : inn x L = true := by
            unfold inn
            rw [List.all_eq_true]
            intro c hc
            have := hall c (by rw [List.take_length]; exact hc)
            simp; omega
          refine ⟨((others_of_below hb2).trans (others_of_below hnx)).from _, ⟨(hb2.mono (by omega)).trans (hnx.mono (by omega)), (boxed_past hnx (boxed_past hb2 bE1)).trans (Eq.symm bE1)⟩, ⟨boxed_past hnx qR, boxed_past hnx qF, blk_past hnx (blk_past hb2 rP1), blk_past hnx (blk_past hb2 rB1), boxed_past hnx (boxed_past hb2 bE1), ?_⟩, (hB1'.trans (hb2.mono (by omega))).trans (hnx.mono (by omega))⟩
          rw [covE_app, hcv]
          simp [covE, hin]
    case done =>
      rintro D ys W hD rfl ⟨⟨rR1, rF1, rP1, rB1, bE1, hcv⟩, hB1'⟩ hK
      have cP1 : W.cell? ⟨w.heap.size, 1, none⟩ = some (.int .i64 a1) := (blk_cell rP1 1).trans rfl
      have cP2 : W.cell? ⟨w.heap.size, 2, none⟩ = some (.int .i64 a2) := (blk_cell rP1 2).trans rfl
      have cB2 : W.cell? ⟨w.heap.size + 1, 2, none⟩ = some (.int .i64 b2) := (blk_cell rB1 2).trans rfl
      have cB5 : W.cell? ⟨w.heap.size + 1, 5, none⟩ = some (.int .i64 b5) := (blk_cell rB1 5).trans rfl
      have rc := rR1.cell
      have rf := rR1.frozen
      have fc := rF1.cell
      have ff := rF1.frozen
      rw [hcv, Bool.true_and] at hr
      by_cases q1 : a1 ≤ b2
      · have q1b : decide (a1 ≤ b2) = true := decide_eq_true q1
        rw [q1b, Bool.true_and] at hr
        subst hr
        gi_wp2
        have hK' := ((KeepsOthers.setCell W ⟨w.heap.size + 1 + 1, 0, none⟩ (.bool (decide (b5 ≤ a2)))).trans (KeepsOthers.setCell _ ⟨w.heap.size + 1 + 1 + 1, 0, none⟩ (.int .i64 0))).same D _ hK rfl
        have gR := cell_kept ((rR1.set (.bool (decide (b5 ≤ a2)))).other (show w.heap.size + 1 + 1 ≠ w.heap.size + 1 + 1 + 1 by omega) (.int .i64 0)).cell (grownBy_putObj' _ D (.deferred none)) (fun r e => by cases e; exact ⟨_, hK', rfl⟩)
        have gF := cell_kept ((rF1.other (show w.heap.size + 1 + 1 + 1 ≠ w.heap.size + 1 + 1 by omega) (.bool (decide (b5 ≤ a2)))).set (.int .i64 0)).cell (grownBy_putObj' _ D (.deferred none)) (fun r e => by cases e; exact ⟨_, hK', rfl⟩)
        refine ⟨by simp, .inl ⟨_, _, rfl, run_takeDeferred hK', ?_⟩⟩
        refine ⟨.tuple #[.bool (decide (b5 ≤ a2)), .int .i64 0], ?_, rfl, ((hB1'.setCell (p := ⟨w.heap.size + 1 + 1, 0, none⟩) (by simp; omega) _).setCell (p := ⟨w.heap.size + 1 + 1 + 1, 0, none⟩) (by simp; omega) _).trans (belowK_b (w := w) (Nat.le_refl _) _ D _ _ (by omega) hK' rfl rfl)⟩
        simp [results, Try.f18, go_sem, gR, gF]
      · have q1b : decide (a1 ≤ b2) = false := decide_eq_false q1
        rw [q1b, Bool.false_and] at hr
        subst hr
        gi_wp2
        have hK' := ((KeepsOthers.setCell W ⟨w.heap.size + 1 + 1, 0, none⟩ (.bool false)).trans (KeepsOthers.setCell _ ⟨w.heap.size + 1 + 1 + 1, 0, none⟩ (.int .i64 0))).same D _ hK rfl
        have gR := cell_kept ((rR1.set (.bool false)).other (show w.heap.size + 1 + 1 ≠ w.heap.size + 1 + 1 + 1 by omega) (.int .i64 0)).cell (grownBy_putObj' _ D (.deferred none)) (fun r e => by cases e; exact ⟨_, hK', rfl⟩)
        have gF := cell_kept ((rF1.other (show w.heap.size + 1 + 1 + 1 ≠ w.heap.size + 1 + 1 by omega) (.bool false)).set (.int .i64 0)).cell (grownBy_putObj' _ D (.deferred none)) (fun r e => by cases e; exact ⟨_, hK', rfl⟩)
        refine ⟨by simp, .inl ⟨_, _, rfl, run_takeDeferred hK', ?_⟩⟩
        refine ⟨.tuple #[.bool false, .int .i64 0], ?_, rfl, ((hB1'.setCell (p := ⟨w.heap.size + 1 + 1, 0, none⟩) (by simp; omega) _).setCell (p := ⟨w.heap.size + 1 + 1 + 1, 0, none⟩) (by simp; omega) _).trans (belowK_b (w := w) (Nat.le_refl _) _ D _ _ (by omega) hK' rfl rfl)⟩
        simp [results, Try.f18, go_sem, gR, gF]
    case stop =>
      rintro D c pre W hD ⟨m, hm, rfl⟩ ⟨⟨rfl, rR1, rF1, hcv⟩, hB1'⟩ hK
      have hrf : r1 = false := by
        rw [← hr, show edge_upto l0 l0.length = edge_upto l0 m ++ (edge_upto l0 l0.length).drop m by
          conv => lhs; rw [← List.take_append_drop m (edge_upto l0 l0.length)]
          congr 1
          simp [edge_upto, ← List.map_take, List.take_range, Nat.min_eq_left hm], covE_app, hcv]
        rfl
      subst hrf
      gi_wp2
      have gR := cell_kept rR1.cell (grownBy_putObj' _ D (.deferred none)) (fun r e => by cases e; exact ⟨_, hK, rfl⟩)
      have gF := cell_kept rF1.cell (grownBy_putObj' _ D (.deferred none)) (fun r e => by cases e; exact ⟨_, hK, rfl⟩)
      refine ⟨by simp, .inl ⟨_, _, rfl, run_takeDeferred hK, ?_⟩⟩
      refine ⟨.tuple #[.bool false, .int .i64 0], ?_, rfl, hB1'.trans (belowK_b (w := w) (Nat.le_refl _) W D _ _ (by omega) hK rfl rfl)⟩
      simp [results, Try.f18, go_sem, gR, gF]
  · rw [if_neg ht] at h
    simp only [Option.some.injEq, Prod.mk.injEq] at h
    obtain ⟨rfl, rfl⟩ := h
    have ht1 : (tc != 0) = true := bne_iff_ne.mpr ht
    have ht2 : (tc == 0) = false := beq_eq_false_iff_ne.mpr ht
    gi_wp2_with (refine ⟨trivial, ?_⟩; gi_at_call 41; refine (callsIn_wide.2 (prism_both.calls k A0 c0 l0 a1 a2 b0 b1 b2 b3 b4 b5 tc _ hCw hc0 hchk)).mono ?_; rintro e w1 ⟨rfl, hb1⟩; have rR := boxed_past hb1 bR; have rF := boxed_past hb1 bF; have rc := rR.cell; have rf := rR.frozen; have fc := rF.cell; have ff := rF.frozen)
    have gR := ((rR.set (.bool false)).other (show w.heap.size + 1 + 1 ≠ w.heap.size + 1 + 1 + 1 by omega) (.int .i64 tc)).cell
    have gF := ((rF.other (show w.heap.size + 1 + 1 + 1 ≠ w.heap.size + 1 + 1 by omega) (.bool false)).set (.int .i64 tc)).cell
    refine ⟨.tuple #[.bool false, .int .i64 tc], ?_, rfl, ((hB1.trans (hb1.mono (by simp; omega))).setCell (p := ⟨w.heap.size + 1 + 1, 0, none⟩) (by simp; omega) _).setCell (p := ⟨w.heap.size + 1 + 1 + 1, 0, none⟩) (by simp; omega) _⟩
    simp [results, Try.f18, go_sem, gR, gF]
end Go.Proofs.Ythogemdknlpnpaa.XA
