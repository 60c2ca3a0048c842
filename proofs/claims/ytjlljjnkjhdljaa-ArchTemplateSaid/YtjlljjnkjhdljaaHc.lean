import Derived.Test.YtjlljjnkjhdljaaXAx0
import Derived.Test.YtjlljjnkjhdljaaXAx8
import Derived.Test.YtjlljjnkjhdljaaHr
import Derived.Test.YtjlljjnkjhdljaaHa
import Derived.RangeFuncNested
import Derived.RangeFuncBound
import Derived.RangeFuncCalls
import Derived.RangeFuncLeaves
import Derived.Shelf.Abstract
import Derived.OwnWalkIn
import Derived.TacticsInMore
import Derived.LoopNIn
import Derived.LoopIn
namespace Go.Proofs.Ytjlljjnkjhdljaa.XA
open Go.RowKit Go.Shelf Go.Proofs.Ytjlljjnkjhdljaa.Opens Go.Proofs.YtjlljjnkjhdljaaW.PrintWords Go.Proofs.YtjlljjnkjhdljaaW.PrintLast Go.Proofs.YtjlljjnkjhdljaaW.PrintMore
attribute [local go_sem] Oper.semAt_some
set_option linter.unusedVariables false
set_option linter.unusedSimpArgs false

def ar : List Ed → Int → Int
  | [], n => n
  | e :: es, n => ar es (wrap64 (n + wrap64 (wrap64 (e.1.f0 * e.2.f1) - wrap64 (e.2.f0 * e.1.f1))))
def ars : List (List S46) → Int → Int
  | [], n => n
  | l :: ls, n => ars ls (ar (edge_upto l l.length) n)
def small (l : List S46) : Bool := decide (0 < l.length ∧ l.length < 1000)
def arch_Area2.f (k : Nat) (l0 : List (List S46)) : Option (Int × Int) := (arch_Check.f k l0).bind fun t => if t = 0 then (if l0.length < 1000 ∧ l0.all small = true then some (ars l0 0, 0) else none) else some (0, t)
theorem arch_Area2.mono : ∀ a0 k, LeO (arch_Area2.f k a0) (arch_Area2.f (k + 1) a0) := by
  intro a0 k
  unfold arch_Area2.f
  exact LeO.bind (arch_Check.mono _ _) (fun _ => LeO.refl _)
/-- Of each range over a function that is over, its block for deferred calls: there is none. -/
def Marks (W : World) (lo hi : Nat) : List Deferred → Prop
  | [] => True
  | d :: ds => ∃ D, d = { target := .collected D, args := #[] } ∧ lo ≤ D ∧ D < hi ∧ W.heap[D]? = some (.deferred (some [])) ∧ Marks W lo D ds
theorem Marks.move {X Y : World} {lo : Nat} : ∀ {ds : List Deferred} {hi : Nat}, Marks X lo hi ds → (∀ D, lo ≤ D → D < hi → X.heap[D]? = some (.deferred (some [])) → Y.heap[D]? = some (.deferred (some []))) → Marks Y lo hi ds
  | [], _, _, _ => trivial
  | d :: ds, hi, ⟨D, h1, h2, h3, h4, h5⟩, hm => ⟨D, h1, h2, h3, hm D h2 h3 h4, h5.move fun D' q1 q2 q3 => hm D' q1 (Nat.lt_trans q2 h3) q3⟩
theorem Marks.mono {X : World} {lo : Nat} : ∀ {ds : List Deferred} {hi hi' : Nat}, Marks X lo hi ds → hi ≤ hi' → Marks X lo hi' ds
  | [], _, _, _, _ => trivial
  | _ :: _, _, _, ⟨D, h1, h2, h3, h4, h5⟩, hh => ⟨D, h1, h2, Nat.lt_of_lt_of_le h3 hh, h4, h5⟩
theorem leaves_marks {F : Fence} {n : Nat} {P : Program} {fn : Func} {tmps : Array Value} {R : Ending → World → Prop} {lo n₀ : Nat} {w : World} (hn : w.heap.size ≤ lo) (hw : n₀ ≤ w.heap.size) : ∀ (ds : List Deferred) (hi : Nat) (W : World), Marks W lo hi ds → Below n₀ w W →
    (∀ W', Below n₀ w W' → LeavesIn F n P fn tmps R [] .returning W') → LeavesInM F n P fn tmps R ds .returning W
  | [], _, W, _, hb, h => h W hb
  | d :: ds, hi, W, ⟨D, h1, h2, h3, h4, h5⟩, hb, h => by
    subst h1
    refine ⟨by simp, .inl ⟨D, _, rfl, run_takeDeferred h4, leaves_marks hn hw ds D _ (h5.move fun D' q1 q2 q3 => ?_) (hb.trans (belowK_b (w := w) hw W D _ _ ?_ h4 rfl rfl)) h⟩⟩
    · exact ((grownBy_putObj' W D (.deferred none)).block D' (Array.getElem?_eq_some_iff.1 q3).1 (fun e => by cases e; omega)).trans q3
    · omega

theorem rounds_of {F : Fence} {n : Nat} {P : Program} {c : Code} {Q : Exit → Act → World → Prop} (I : Nat → Act → World → Prop) (step : ∀ m a W, I (m + 1) a W → c.wpIn F n P (Exit.then (fun a' W' => I m a' W') Q) a W) (last : ∀ a W, I 0 a W → c.wpIn F n P (Exit.then (fun _ _ => False) Q) a W) : ∀ m a W, I m a W → Code.roundsIn F n P c Q (m + 1) a W
  | 0, a, W, h => last a W h
  | m + 1, a, W, h => Code.wpIn_mono (fun e a' W' hq => by
      cases e with
      | normal => exact rounds_of I step last m a' W' hq
      | _ => exact hq) (step m a W h)
theorem Marks.keeps {X Y : World} {lo hi : Nat} {ds : List Deferred} (h : Marks X lo hi ds) (hk : KeepsOthers X Y) : Marks Y lo hi ds := h.move fun D _ _ h3 => hk.same D _ h3 rfl
theorem Marks.own {X Y : World} {lo hi : Nat} {ds : List Deferred} {row : Option Nat} (h : Marks X lo hi ds) (hg : X.grownBy Y row) (hr : ∀ r, row = some r → hi ≤ r) : Marks Y lo hi ds := h.move fun D _ h2 h3 => (hg.block D (Array.getElem?_eq_some_iff.1 h3).1 (fun e => by have := hr D e.symm; omega)).trans h3

set_option maxRecDepth 100000 in
set_option maxHeartbeats 4000000 in
theorem arch_Area2.calls (k : Nat) (A0 : Option Addr) (c0 : Nat) (l0 : List (List S46)) (r1 : Int) (r2 : Int) (w : World) (hr0 : Kd.C (Kd.slice 46 k46) w A0 l0.length l0) (hc0 : l0.length ≤ c0) (h : arch_Area2.f k l0 = some (r1, r2)) :
    Calls Try.prog 14 #[.slice A0 l0.length c0] w fun e w' => e = .returned (.tuple #[.int .i64 r1, .int .i64 r2]) ∧ Below w.heap.size w w' := by
  obtain ⟨tc, hchk, h⟩ := Option.bind_eq_some_iff.mp h
  refine (callsIn_wide (n := 5)).1 ?_
  refine callsIn_of_wp_marks Try.func14 rfl trivial ?_ rfl
  simp only [Try.ntmps14, List.size_toArray, List.length_cons, List.length_nil, Nat.reduceAdd, Nat.reduceSub, Array.replicate_succ, Array.replicate_zero, List.push_toArray, List.append_toArray, List.nil_append, List.cons_append]
  by_cases ht : tc = 0
  · subst ht
    rw [if_pos rfl] at h
    have hp : l0.length < 1000 ∧ l0.all small = true := by
      refine Classical.byContradiction fun hp => ?_
      rw [if_neg hp] at h
      cases h
    rw [if_pos hp] at h
    obtain ⟨hlen, hsm⟩ := hp
    simp only [Option.some.injEq, Prod.mk.injEq] at h
    obtain ⟨hr, rfl⟩ := h
    gi_wp2_with (refine ⟨trivial, ?_⟩; gi_at_call 33; refine (callsIn_wide.2 (arch_Check.calls k A0 c0 l0 0 _ hr0 hc0 hchk)).mono ?_; rintro e w1 ⟨rfl, hb1⟩)
    have hsw := hb1.size
    have bN := Boxed.new w1 3 (.int .i64 0)
    have hB0 : Below w.heap.size w (w1.alloc (.cells #[.int .i64 0] 3)) := hb1.alloc hsw _
    have hsz : (w1.alloc (.cells #[.int .i64 0] 3)).heap.size = w1.heap.size + 1 := by simp
    obtain ⟨W0, hW0⟩ : ∃ W0, w1.alloc (.cells #[.int .i64 0] 3) = W0 := ⟨_, rfl⟩
    rw [hW0] at bN hB0 hsz ⊢
    clear hW0 hb1
    obtain ⟨b5, hb5⟩ : ∃ b, w1.heap.size = b := ⟨_, rfl⟩
    rw [hb5] at bN hsz hsw ⊢
    clear hb5 w1
    refine wpIn_loop_rounds (l0.length + 1) (rounds_of (fun m a W => ∃ (j : Nat) (t : Int) (ds : List Deferred) (u7 u18 u19 u20 u21 u22 u38 : Value), j + m = l0.length ∧ ars (l0.drop j) t = r1 ∧ Boxed W b5 3 (.int .i64 t) ∧ Marks W (b5 + 1) W.heap.size ds ∧ Below w.heap.size w W ∧ a = { tmps := #[.slice A0 l0.length c0, undef, .int .i64 0, .int .i64 0, .int .i64 0, .pointer (some ⟨b5, 0, none⟩), undef, u7, undef, undef, .slice A0 l0.length c0, .int .i64 0, .int .i64 0, .bool false, undef, .slice A0 l0.length c0, .int .i64 (l0.length : Int), .int .i64 (j : Int), u18, u19, u20, u21, u22, undef, undef, undef, undef, undef, undef, undef, undef, undef, undef, undef, undef, undef, undef, undef, u38, undef], defers := ds }) ?step ?last l0.length _ _ ⟨0, 0, [], _, _, _, _, _, _, _, by omega, hr, bN, trivial, hB0, rfl⟩)
    case step =>
      rintro m a W ⟨j, t, ds, u7, u18, u19, u20, u21, u22, u38, hm, hrest, bT, hM, hB, rfl⟩
      have hj : j < l0.length := by omega
      obtain ⟨ad, Ai, ci, e1, hx0, hcap, hCi⟩ := at_L2 hr0 (j : Int) (by omega) (by omega)
      subst e1
      replace hx0 := (hB.cell (World.block_lt_of_cell? w _ hx0)).trans hx0
      rw [Int.toNat_natCast] at hx0
      obtain ⟨row, hrow⟩ : ∃ row, rd_L2 l0 (j : Int) = row := ⟨_, rfl⟩
      rw [hrow] at hx0 hcap hCi
      have hmem : row ∈ l0 := by
        rw [← hrow]; unfold rd_L2; rw [Int.toNat_natCast, List.getD_eq_getElem?_getD, List.getElem?_eq_getElem hj]; exact List.getElem_mem _
      have hsmall : 0 < row.length ∧ row.length < 1000 := of_decide_eq_true (List.all_eq_true.1 hsm row hmem)
      have hdrop : l0.drop j = row :: l0.drop (j + 1) := by
        rw [List.drop_eq_getElem_cons hj, ← hrow]
        unfold rd_L2; rw [Int.toNat_natCast, List.getD_eq_getElem?_getD, List.getElem?_eq_getElem hj]; rfl
      rw [hdrop, ars] at hrest
      clear hrow hmem hdrop
      obtain ⟨hpos, hlr⟩ := hsmall
      gi_wp2_with (refine ⟨trivial, ?_⟩; gi_at_call 43; refine (edges_in Fence.wide _ trivial rfl _ _ _ _).mono ?_; rintro e w' ⟨rfl, rfl⟩)
      have hlt5 := bT.lt
      have bE := Boxed.new W 38 (.slice Ai row.length ci)
      have bT1 := bT.alloc (.cells #[.slice Ai row.length ci] 38)
      have hM1 : Marks (W.alloc (.cells #[.slice Ai row.length ci] 38)) (b5 + 1) W.heap.size ds := hM.keeps (KeepsOthers.alloc _ _)
      have hBL : Below w.heap.size w (W.alloc (.cells #[.slice Ai row.length ci] 38)) := hB.alloc hB.size _
      have hszL : (W.alloc (.cells #[.slice Ai row.length ci] 38)).heap.size = W.heap.size + 1 := by simp
      obtain ⟨WL, hWL⟩ : ∃ X, W.alloc (.cells #[.slice Ai row.length ci] 38) = X := ⟨_, rfl⟩
      rw [hWL] at bE bT1 hM1 hBL hszL ⊢
      clear hWL hM bT hx0
      have hsW := hB.size
      clear hB
      obtain ⟨n1, hn1⟩ : ∃ b, W.heap.size = b := ⟨_, rfl⟩
      rw [hn1] at bE hM1 hszL hlt5 hsW ⊢
      clear hn1 W
      refine wpIn_rangeFunc_ownH rfl (by omega) (gf := 66) (lb := #[.pointer (some ⟨n1, 0, none⟩)]) rfl trivial (enters_of Try.func66 (by kernel_rfl) rfl)
        (edges_stops (5 - 1) (by omega) n1 w.heap.size Ai ci row w hCi hpos hlr WL hBL (Nat.le_refl _) (by omega) bE.cell (by omega)) KeepB.trans (KeepB.put (by omega) (by omega)) (Below.refl _ _) (fun _ => rfl)
        (fun pre W => (∃ t' : Int, Boxed W b5 3 (.int .i64 t') ∧ Boxed W n1 38 (.slice Ai row.length ci) ∧ ∀ rest, ar (pre ++ rest) t = ar rest t') ∧ Marks W (b5 + 1) n1 ds ∧ Below w.heap.size w W)
        (fun _ _ _ => False)
        (OwnFrom.and (Own.from (fun s X Y row hs hg hr => by obtain ⟨t', h1, h5, h4⟩ := hs; exact ⟨t', boxed_own _ _ (fun (_ : Unit) => _) () X Y row h1 hg hr, boxed_own _ _ (fun (_ : Unit) => _) () X Y row h5 hg hr, h4⟩) _) (OwnFrom.and (fun _ X Y row hs hg hr => hs.own hg (fun r e => by have := (hr r e).1; omega)) (ownFrom_below (Nat.le_refl _) (by omega))))
        (fun _ _ _ _ _ hs _ _ => hs)
        ⟨⟨t, bT1, bE, fun _ => rfl⟩, hM1, hBL⟩
        (fun x a' W => ∃ Bx, n1 + 1 ≤ Bx ∧ Blk W Bx #[.int .i64 x.1.f0, .int .i64 x.1.f1] 46 ∧ Blk W (Bx + 1) #[.int .i64 x.2.f0, .int .i64 x.2.f1] 46 ∧ a' = { tmps := #[.slice (some ad) l0.length c0, undef, .int .i64 0, .int .i64 0, .int .i64 0, .pointer (some ⟨b5, 0, none⟩), undef, .slice Ai row.length ci, .pointer (some ⟨Bx, 0, none⟩), .pointer (some ⟨Bx + 1, 0, none⟩), .slice (some ad) l0.length c0, .int .i64 0, .int .i64 0, .bool false, undef, .slice (some ad) l0.length c0, .int .i64 (l0.length : Int), .int .i64 (j : Int), .bool true, .pointer (some (ad.add j)), .slice Ai row.length ci, .slice Ai row.length ci, .func (.func 66) #[] #[.pointer (some ⟨n1, 0, none⟩)], .agg #[.int .i64 x.1.f0, .int .i64 x.1.f1], .agg #[.int .i64 x.2.f0, .int .i64 x.2.f1], undef, undef, undef, undef, undef, undef, undef, undef, undef, undef, undef, undef, undef, u38, undef], defers := [] })
        (fun x a' _ X Y row hs hg hr => by obtain ⟨Bx, h1, h2, h3, h4⟩ := hs; exact ⟨Bx, h1, Blk.own Bx (fun (_ : Unit) => _) 46 () X Y row h2 hg (fun r e => (hr r e).2), Blk.own (Bx + 1) (fun (_ : Unit) => _) 46 () X Y row h3 hg (fun r e => (hr r e).2), h4⟩)
        ?assign ?body ?done ?stop
      case assign =>
        rintro l pre x W K ⟨⟨t', bT2, bE2, hcv⟩, hM2, hB2⟩ hK
        dsimp only [edge_enc]
        gi_wp2
        have hlW : n1 < W.heap.size := bE2.lt
        have hs1 := hB2.size
        exact hK _ _ (((KeepsOthers.alloc _ _).trans (KeepsOthers.alloc _ _)).from _) ⟨((Below.refl _ W).alloc hB2.size _).alloc (by simp; omega) _, ((bE2.alloc _).alloc _).trans (Eq.symm bE2)⟩ ⟨⟨t', (bT2.alloc _).alloc _, (bE2.alloc _).alloc _, hcv⟩, hM2.keeps ((KeepsOthers.alloc _ _).trans (KeepsOthers.alloc _ _)), (hB2.alloc hB2.size _).alloc (by simp; omega) _⟩ ⟨W.heap.size, by omega, blk_alloc (World.alloc_heap_new W _) _, by have := World.alloc_heap_new (W.alloc (.cells #[.int .i64 x.1.f0, .int .i64 x.1.f1] 46)) (.cells #[.int .i64 x.2.f0, .int .i64 x.2.f1] 46); rwa [World.size_alloc] at this, rfl⟩
      case body =>
        rintro l pre x a' W hl ⟨r', hrl⟩ ⟨⟨t', bT2, bE2, hcv⟩, hM2, hB2⟩ ⟨Bx, hBx, bX, bY, rfl⟩ hlt
        have cX0 : W.cell? ⟨Bx, 0, none⟩ = some (.int .i64 x.1.f0) := (blk_cell bX 0).trans rfl
        have cX1 : W.cell? ⟨Bx, 1, none⟩ = some (.int .i64 x.1.f1) := (blk_cell bX 1).trans rfl
        have cY0 : W.cell? ⟨Bx + 1, 0, none⟩ = some (.int .i64 x.2.f0) := (blk_cell bY 0).trans rfl
        have cY1 : W.cell? ⟨Bx + 1, 1, none⟩ = some (.int .i64 x.2.f1) := (blk_cell bY 1).trans rfl
        have nc := bT2.cell
        have nf := bT2.frozen
        gi_wp2
        refine ⟨(KeepsOthers.setCell _ _ _).from _, ⟨(Below.refl _ W).setCell (p := ⟨b5, 0, none⟩) (by simp; omega) _, (bE2.other (show n1 ≠ b5 by omega) _).trans (Eq.symm bE2)⟩, ⟨_, bT2.set _, bE2.other (show n1 ≠ b5 by omega) _, fun rest => ?_⟩, hM2.keeps (KeepsOthers.setCell _ _ _), hB2.setCell (p := ⟨b5, 0, none⟩) (by simp; omega) _⟩
        rw [List.append_assoc, hcv]
        rfl
      case done =>
        rintro D ys W hD rfl ⟨⟨t', bT2, bE2, hcv⟩, hM2, hB2⟩ hK
        have hfin := hcv []
        rw [List.append_nil] at hfin
        rw [hfin, ar] at hrest
        have hHR := Aside0.mk hrest
        have hHF := Aside0.mk hfin
        clear hrest hfin hcv
        have hjj : IntKind.i64.wrap ((j : Int) + 1) = ((j + 1 : Nat) : Int) := by rw [wrap_at _ (by omega) (by omega)]; omega
        gi_wp2
        exact ⟨j + 1, t', { target := .collected D, args := #[] } :: ds, _, _, _, _, _, _, _, by omega, hHR.out, bT2, ⟨D, rfl, by omega, (Array.getElem?_eq_some_iff.1 hK).1, hK, hM2.mono (by omega)⟩, hB2, rfl⟩
      case stop =>
        rintro D c pre W hD _ h _
        exact h.elim
    case last =>
      rintro a W ⟨j, t, ds, u7, u18, u19, u20, u21, u22, u38, hm, hrest, bT, hM, hB, rfl⟩
      obtain rfl : j = l0.length := by omega
      rw [List.drop_length, ars] at hrest
      subst hrest
      have nc := bT.cell
      gi_wp2
      exact leaves_marks (fn := Try.f14) (n₀ := w.heap.size) (w := w) (show w.heap.size ≤ b5 + 1 by omega) (Nat.le_refl _) ds _ W (hM.move fun D _ _ h3 => h3) hB (fun W' hb' => ⟨.tuple #[.int .i64 t, .int .i64 0], by simp [results, Try.f14, go_sem], rfl, hb'⟩)
  · rw [if_neg ht] at h
    simp only [Option.some.injEq, Prod.mk.injEq] at h
    obtain ⟨rfl, rfl⟩ := h
    have ht1 : (tc != 0) = true := bne_iff_ne.mpr ht
    have ht2 : (tc == 0) = false := beq_eq_false_iff_ne.mpr ht
    gi_wp2_with (refine ⟨trivial, ?_⟩; gi_at_call 33; refine (callsIn_wide.2 (arch_Check.calls k A0 c0 l0 tc _ hr0 hc0 hchk)).mono ?_; rintro e w1 ⟨rfl, hb1⟩)
    refine ⟨.tuple #[.int .i64 0, .int .i64 tc], ?_, rfl, hb1⟩
    simp [results, Try.f14, go_sem]

end Go.Proofs.Ytjlljjnkjhdljaa.XA
