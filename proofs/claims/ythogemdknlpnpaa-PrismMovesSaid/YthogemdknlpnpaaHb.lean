import Derived.Test.YthogemdknlpnpaaXAx0
import Derived.Test.YthogemdknlpnpaaXAx4
import Derived.Test.YthogemdknlpnpaaHr
import Derived.Test.YthogemdknlpnpaaHa
import Derived.RangeFuncNested
import Derived.RangeFuncBound
import Derived.RangeFuncCalls
import Derived.RangeFuncLeaves
import Derived.Shelf.Abstract
import Derived.OwnWalkIn
import Derived.TacticsInMore
import Derived.LoopNIn
import Derived.LoopIn
namespace Go.Proofs.Ythogemdknlpnpaa.XA
open Go.RowKit Go.Shelf Go.Proofs.Ythogemdknlpnpaa.Opens Go.Proofs.YthogemdknlpnpaaW.PrintWords Go.Proofs.YthogemdknlpnpaaW.PrintLast Go.Proofs.YthogemdknlpnpaaW.PrintMore
attribute [local go_sem] Oper.semAt_some
set_option linter.unusedVariables false
set_option linter.unusedSimpArgs false

/-- One round of convex: what the turns are behind it; nothing where it has failed. -/
def cvx_step (l : List S60) (e : Ed) (t : Int) : Option Int :=
  let q := rd_T60 l ((IntKind.i64.wrap ((e.1.val : Int) + 2)).tmod (l.length : Int))
  match prism_cross.f e.2.1.f0 e.2.1.f1 e.2.2.f0 e.2.2.f1 q.f0 q.f1, prism_upper.f e.2.1.f0 e.2.1.f1 e.2.2.f0 e.2.2.f1, prism_upper.f e.2.2.f0 e.2.2.f1 q.f0 q.f1 with
  | some c, some u, some v => if c ≤ 0 then none else if u = false ∧ v = true then some (wrap64 (t + 1)) else some t
  | _, _, _ => none
def cvx (l : List S60) : List Ed → Int → Bool
  | [], t => decide (t = 1)
  | e :: es, t => match cvx_step l e t with | none => false | some t' => cvx l es t'
def prism_convex.f (l : List S60) : Option Bool := if 0 < l.length ∧ l.length < 1000 then some (cvx l (edge_upto l l.length) 0) else none

set_option maxRecDepth 100000 in
set_option maxHeartbeats 4000000 in
theorem prism_convex.calls (A0 : Option Addr) (c0 : Nat) (l0 : List S60) (r : Bool) (w : World) (hr0 : Kd.C k60 w A0 l0.length l0) (hc0 : l0.length ≤ c0) (h : prism_convex.f l0 = some r) :
    Calls Try.prog 39 #[.slice A0 l0.length c0] w fun e w' => e = .returned (.bool r) ∧ Below w.heap.size w w' := by
  have hp : 0 < l0.length ∧ l0.length < 1000 := by
    refine Classical.byContradiction fun hp => ?_
    simp [prism_convex.f, hp] at h
  have hr : cvx l0 (edge_upto l0 l0.length) 0 = r := by simpa [prism_convex.f, hp] using h
  clear h
  obtain ⟨hpos, hlen⟩ := hp
  refine (callsIn_wide (n := 5)).1 ?_
  refine callsIn_of_wp_marks Try.func39 rfl trivial ?_ rfl
  simp only [Try.ntmps39, List.size_toArray, List.length_cons, List.length_nil, Nat.reduceAdd, Nat.reduceSub, Array.replicate_succ, Array.replicate_zero, List.push_toArray, List.append_toArray, List.nil_append, List.cons_append]
  gi_wp2_with (refine ⟨trivial, ?_⟩; gi_at_call 37; refine (edges_in Fence.wide _ trivial rfl _ _ _ _).mono ?_; rintro e w' ⟨rfl, rfl⟩)
  have bS := (((Boxed.new w 23 (.slice A0 l0.length c0)).alloc (.cells #[.bool false] 4)).alloc (.cells #[.int .i64 0] 3)).alloc (.cells #[.slice A0 l0.length c0] 23)
  have bR := ((Boxed.new (w.alloc (.cells #[.slice A0 l0.length c0] 23)) 4 (.bool false)).alloc (.cells #[.int .i64 0] 3)).alloc (.cells #[.slice A0 l0.length c0] 23)
  have bT := (Boxed.new ((w.alloc (.cells #[.slice A0 l0.length c0] 23)).alloc (.cells #[.bool false] 4)) 3 (.int .i64 0)).alloc (.cells #[.slice A0 l0.length c0] 23)
  have bE := Boxed.new (((w.alloc (.cells #[.slice A0 l0.length c0] 23)).alloc (.cells #[.bool false] 4)).alloc (.cells #[.int .i64 0] 3)) 23 (.slice A0 l0.length c0)
  simp only [World.size_alloc] at bR bT bE
  have hB0 : Below w.heap.size w ((((w.alloc (.cells #[.slice A0 l0.length c0] 23)).alloc (.cells #[.bool false] 4)).alloc (.cells #[.int .i64 0] 3)).alloc (.cells #[.slice A0 l0.length c0] 23)) := (((((Below.refl _ w).alloc (Nat.le_refl _) _).alloc (by simp) _).alloc (by simp; omega) _).alloc (by simp; omega) _)
  have hsz : ((((w.alloc (.cells #[.slice A0 l0.length c0] 23)).alloc (.cells #[.bool false] 4)).alloc (.cells #[.int .i64 0] 3)).alloc (.cells #[.slice A0 l0.length c0] 23)).heap.size = w.heap.size + 4 := by simp
  obtain ⟨W0, hW0⟩ : ∃ W0, (((w.alloc (.cells #[.slice A0 l0.length c0] 23)).alloc (.cells #[.bool false] 4)).alloc (.cells #[.int .i64 0] 3)).alloc (.cells #[.slice A0 l0.length c0] 23) = W0 := ⟨_, rfl⟩
  rw [hW0] at bS bR bT bE hB0 hsz ⊢
  clear hW0
  refine wpIn_rangeFunc_ownH rfl (by omega) (gf := 49) (lb := #[.pointer (some ⟨w.heap.size + 1 + 1 + 1, 0, none⟩)]) rfl trivial (enters_of Try.func49 (by kernel_rfl) rfl)
    (edges_stops (5 - 1) (by omega) (w.heap.size + 1 + 1 + 1) w.heap.size A0 c0 l0 w hr0 hpos hlen W0 hB0 (Nat.le_refl _) (by omega) bE.cell (by omega)) KeepB.trans (KeepB.put (by omega) (by omega)) (Below.refl _ _) (fun _ => rfl)
    (fun pre W => (∃ t : Int, Boxed W (w.heap.size + 1 + 1) 3 (.int .i64 t) ∧ Boxed W (w.heap.size + 1) 4 (.bool false) ∧ Boxed W w.heap.size 23 (.slice A0 l0.length c0) ∧ Boxed W (w.heap.size + 1 + 1 + 1) 23 (.slice A0 l0.length c0) ∧ ∀ rest, cvx l0 (pre ++ rest) 0 = cvx l0 rest t) ∧ Below w.heap.size w W)
    (fun c pre W => (c = .ret ∧ Boxed W (w.heap.size + 1) 4 (.bool false) ∧ ∀ rest, cvx l0 (pre ++ rest) 0 = false) ∧ Below w.heap.size w W)
    (OwnFrom.and (Own.from (fun s X Y row hs hg hr => by obtain ⟨t, h1, h2, h3, h5, h4⟩ := hs; exact ⟨t, boxed_own _ _ (fun (_ : Unit) => _) () X Y row h1 hg hr, boxed_own _ _ (fun (_ : Unit) => _) () X Y row h2 hg hr, boxed_own _ _ (fun (_ : Unit) => _) () X Y row h3 hg hr, boxed_own _ _ (fun (_ : Unit) => _) () X Y row h5 hg hr, h4⟩) _) (ownFrom_below (Nat.le_refl _) (by omega)))
    (fun c => OwnFrom.and (Own.from (fun s X Y row hs hg hr => by obtain ⟨hc, h2, h4⟩ := hs; exact ⟨hc, boxed_own _ _ (fun (_ : Unit) => _) () X Y row h2 hg hr, h4⟩) _) (ownFrom_below (Nat.le_refl _) (by omega)))
    ⟨⟨0, bT, bR, bS, bE, fun _ => rfl⟩, hB0⟩
    (fun x a' W => ∃ Bx, w.heap.size + 4 ≤ Bx ∧ Blk W Bx #[.int .i64 x.2.1.f0, .int .i64 x.2.1.f1, .int .i64 x.2.2.f0, .int .i64 x.2.2.f1] 66 ∧ a' = { tmps := #[.slice A0 l0.length c0, .pointer (some ⟨w.heap.size, 0, none⟩), .pointer (some ⟨w.heap.size + 1, 0, none⟩), .pointer (some ⟨w.heap.size + 1 + 1, 0, none⟩), .int .i64 (x.1.val : Int), .pointer (some ⟨Bx, 0, none⟩), undef, .slice A0 l0.length c0, .func (.func 49) #[] #[.pointer (some ⟨w.heap.size + 1 + 1 + 1, 0, none⟩)], .int .i64 (x.1.val : Int), .agg #[.int .i64 x.2.1.f0, .int .i64 x.2.1.f1, .int .i64 x.2.2.f0, .int .i64 x.2.2.f1], undef, undef, undef, undef, undef, undef, undef, undef, undef, undef, undef, undef, undef, undef, undef, undef, undef, undef, undef, undef, undef, undef, undef, undef, undef, undef, undef, undef, undef, undef], defers := [] })
    (fun x a' _ X Y row hs hg hr => by obtain ⟨Bx, h1, h2, h3⟩ := hs; exact ⟨Bx, h1, Blk.own Bx (fun (_ : Unit) => _) 66 () X Y row h2 hg (fun r e => (hr r e).2), h3⟩)
    ?assign ?body ?done ?stop
  case assign =>
    rintro l pre x W K ⟨⟨t, bT1, bR1, bS1, bE1, hcv⟩, hB1⟩ hK
    dsimp only [edge_enc]
    gi_wp2
    have hlW : w.heap.size + 1 + 1 + 1 < W.heap.size := bE1.lt
    exact hK _ _ ((KeepsOthers.alloc _ _).from _) ⟨(Below.refl _ W).alloc hB1.size _, (bE1.alloc _).trans (Eq.symm bE1)⟩ ⟨⟨t, bT1.alloc _, bR1.alloc _, bS1.alloc _, bE1.alloc _, hcv⟩, hB1.alloc hB1.size _⟩ ⟨W.heap.size, by omega, World.alloc_heap_new W _, rfl⟩
  case body =>
    rintro l pre x a' W hl ⟨r', hrl⟩ ⟨⟨t, bT1, bR1, bS1, bE1, hcv⟩, hB1⟩ ⟨Bx, hBx, bX, rfl⟩ hlt
    have hx1 := x.1.isLt
    have hw1 : IntKind.i64.wrap ((x.1.val : Int) + 2) = (x.1.val : Int) + 2 := wrap_at _ (by omega) (by omega)
    have hm0 : 0 ≤ (IntKind.i64.wrap ((x.1.val : Int) + 2)).tmod (l0.length : Int) := by rw [hw1]; exact Int.tmod_nonneg _ (by omega)
    have hm1 : (IntKind.i64.wrap ((x.1.val : Int) + 2)).tmod (l0.length : Int) < (l0.length : Int) := by rw [hw1]; exact Int.tmod_lt_of_pos _ (by omega)
    have hm2 : 0 ≤ (IntKind.i64.wrap ((x.1.val : Int) + 2)).tmod (l0.length : Int) ∧ (IntKind.i64.wrap ((x.1.val : Int) + 2)).tmod (l0.length : Int) < (l0.length : Int) := ⟨hm0, hm1⟩
    clear hw1
    obtain ⟨ad, e1, hy0, hy1⟩ := at_T60 hr0 _ hm0 hm1
    cases e1
    replace hy0 := (hB1.cell (World.block_lt_of_cell? w _ hy0)).trans hy0
    replace hy1 := (hB1.cell (World.block_lt_of_cell? w _ hy1)).trans hy1
    have z1 : ¬ (l0.length : Int) = 0 := by omega
    have z2 : ((l0.length : Int) == 0) = false := beq_eq_false_iff_ne.mpr z1
    have z3 : ¬ l0.length = 0 := by omega
    have z4 : ¬ l0 = [] := fun h => z3 (by rw [h]; rfl)
    obtain ⟨q, hq⟩ : ∃ q, rd_T60 l0 ((IntKind.i64.wrap ((x.1.val : Int) + 2)).tmod (l0.length : Int)) = q := ⟨_, rfl⟩
    rw [hq] at hy0 hy1
    have cX0 : W.cell? ⟨Bx, 0, none⟩ = some (.int .i64 x.2.1.f0) := (blk_cell bX 0).trans rfl
    have cX1 : W.cell? ⟨Bx, 1, none⟩ = some (.int .i64 x.2.1.f1) := (blk_cell bX 1).trans rfl
    have cX2 : W.cell? ⟨Bx, 2, none⟩ = some (.int .i64 x.2.2.f0) := (blk_cell bX 2).trans rfl
    have cX3 : W.cell? ⟨Bx, 3, none⟩ = some (.int .i64 x.2.2.f1) := (blk_cell bX 3).trans rfl
    have cS := bS1.cell
    obtain ⟨Z, hZ⟩ : ∃ Z, (W.drew.alloc (.cells #[.int .i64 0, .int .i64 0, .int .i64 0, .int .i64 0] 66)) = Z := ⟨_, rfl⟩
    have sZ : ∀ p v, W.cell? p = some v → Z.cell? p = some v := fun p v h => by
      have hb : Below W.heap.size W Z := by
        rw [← hZ]
        exact (⟨rfl, rfl, rfl, Nat.le_refl _, fun _ _ => rfl⟩ : Below W.heap.size W W.drew).alloc (Nat.le_refl _) _
      exact (hb.cell (World.block_lt_of_cell? W _ h)).trans h
    have dX2 := sZ _ _ cX2
    have dX3 := sZ _ _ cX3
    have dS := sZ _ _ cS
    have dy0 := sZ _ _ hy0
    have dy1 := sZ _ _ hy1
    gi_wp2
    refine wpIn_region_calm [12] (fun w' => w' = W.drew ∨ w' = Z) (by kernel_rfl) (fun hd => ?_)
    refine wpCalm_take 0 20 (fun _ => trivial) rfl (by kernel_rfl) hd (fun _ _ _ h => h) (.inl rfl) ⟨rfl, by rintro _ (rfl | rfl) <;> (go_simp; first | done | with_reducible rfl)⟩ (fun hd => ?_)
    try simp only [Act.put, List.setIfInBounds_toArray, List.set_cons_zero, List.set_cons_succ]
    refine wpCalm_take 1 20 (fun _ => trivial) rfl (by kernel_rfl) hd (fun _ _ _ h => h) (.inl rfl) ⟨rfl, by rintro _ (rfl | rfl) <;> (go_simp; first | done | with_reducible rfl)⟩ (fun hd => ?_)
    try simp only [Act.put, List.setIfInBounds_toArray, List.set_cons_zero, List.set_cons_succ]
    refine wpCalm_take 2 20 (fun _ => trivial) rfl (by kernel_rfl) hd (fun _ _ _ h => h) (.inl rfl) ⟨rfl, by rintro _ (rfl | rfl) <;> (go_simp; first | done | with_reducible rfl)⟩ (fun hd => ?_)
    try simp only [Act.put, List.setIfInBounds_toArray, List.set_cons_zero, List.set_cons_succ]
    refine wpCalm_take 3 20 (fun _ => trivial) rfl (by kernel_rfl) hd (fun _ _ _ h => h) (.inl rfl) ⟨rfl, by rintro _ (rfl | rfl) <;> (go_simp; first | done | with_reducible rfl)⟩ (fun hd => ?_)
    try simp only [Act.put, List.setIfInBounds_toArray, List.set_cons_zero, List.set_cons_succ]
    refine wpCalm_take 4 20 (fun _ => trivial) rfl (by kernel_rfl) hd (fun _ _ _ h => h) (.inl rfl) ⟨rfl, by rintro _ (rfl | rfl) <;> (go_simp; first | done | with_reducible rfl)⟩ (fun hd => ?_)
    try simp only [Act.put, List.setIfInBounds_toArray, List.set_cons_zero, List.set_cons_succ]
    refine wpCalm_take 5 20 (fun _ => trivial) rfl (by kernel_rfl) hd (fun _ _ _ h => h) (.inl rfl) ⟨rfl, by rintro _ (rfl | rfl) <;> (go_simp; first | done | with_reducible rfl)⟩ (fun hd => ?_)
    try simp only [Act.put, List.setIfInBounds_toArray, List.set_cons_zero, List.set_cons_succ]
    refine wpCalm_take 6 20 (fun _ => trivial) rfl (by kernel_rfl) hd (fun _ _ _ h => h) (.inl rfl) ⟨rfl, by rintro _ (rfl | rfl) <;> (go_simp; first | done | with_reducible rfl)⟩ (fun hd => ?_)
    try simp only [Act.put, List.setIfInBounds_toArray, List.set_cons_zero, List.set_cons_succ]
    refine wpCalm_take 7 20 (fun _ => trivial) rfl (by kernel_rfl) hd (fun _ _ _ h => h) (.inl rfl) ⟨rfl, by rintro _ (rfl | rfl) <;> (go_simp; first | done | with_reducible rfl)⟩ (fun hd => ?_)
    try simp only [Act.put, List.setIfInBounds_toArray, List.set_cons_zero, List.set_cons_succ]
    refine wpCalm_take 8 20 (fun _ => trivial) rfl (by kernel_rfl) hd (fun _ _ _ h => h) (.inl rfl) ⟨rfl, by rintro _ (rfl | rfl) <;> (go_simp; first | done | with_reducible rfl)⟩ (fun hd => ?_)
    try simp only [Act.put, List.setIfInBounds_toArray, List.set_cons_zero, List.set_cons_succ]
    refine wpCalm_take 9 20 (fun _ => trivial) rfl (by kernel_rfl) hd (fun _ _ _ h => h) (.inl rfl) ⟨rfl, by rintro _ (rfl | rfl) <;> (go_simp; first | done | with_reducible rfl)⟩ (fun hd => ?_)
    try simp only [Act.put, List.setIfInBounds_toArray, List.set_cons_zero, List.set_cons_succ]
    refine wpCalm_take 10 20 (fun _ => trivial) rfl (by kernel_rfl) hd (fun _ _ _ h => h) (.inl rfl) ⟨rfl, by rintro _ (rfl | rfl) <;> (go_simp; first | done | with_reducible rfl)⟩ (fun hd => ?_)
    try simp only [Act.put, List.setIfInBounds_toArray, List.set_cons_zero, List.set_cons_succ]
    refine wpCalm_next 11 rfl (by kernel_rfl) (fun K hK => ?_)
    go_simp
    refine hK _ _ (.inr rfl) ?_
    clear hK K sZ dX2 dX3 dS dy0 dy1
    subst hZ
    refine wpCalm_late 12 rfl (by kernel_rfl) rfl (fun K hK => ?_)
    try simp only [Act.put, List.setIfInBounds_toArray, List.set_cons_zero, List.set_cons_succ]
    go_simp
    refine hK _ _ ?_
    clear hK K
    refine wpCalm_done (by kernel_rfl) ?_
    clear cX0 cX1 cX2 cX3 hd
    have hBV : Below W.heap.size W (W.alloc (.cells #[.int .i64 x.2.2.f0, .int .i64 x.2.2.f1, .int .i64 q.f0, .int .i64 q.f1] 66)).drew := ((Below.refl _ W).alloc (Nat.le_refl _) _).trans ⟨rfl, rfl, rfl, Nat.le_refl _, fun _ _ => rfl⟩
    have bN : Blk (W.alloc (.cells #[.int .i64 x.2.2.f0, .int .i64 x.2.2.f1, .int .i64 q.f0, .int .i64 q.f1] 66)).drew W.heap.size #[.int .i64 x.2.2.f0, .int .i64 x.2.2.f1, .int .i64 q.f0, .int .i64 q.f1] 66 := World.alloc_heap_new W _
    have hNx : Bx < W.heap.size := (Array.getElem?_eq_some_iff.1 bX).1
    obtain ⟨V, hV⟩ : ∃ V, (W.alloc (.cells #[.int .i64 x.2.2.f0, .int .i64 x.2.2.f1, .int .i64 q.f0, .int .i64 q.f1] 66)).drew = V := ⟨_, rfl⟩
    rw [hV] at hBV bN ⊢
    clear hV
    have vT := boxed_past hBV bT1
    have vR := boxed_past hBV bR1
    have vS := boxed_past hBV bS1
    have vE := boxed_past hBV bE1
    have vX := blk_past hBV bX
    have cX0 : V.cell? ⟨Bx, 0, none⟩ = some (.int .i64 x.2.1.f0) := (blk_cell vX 0).trans rfl
    have cX1 : V.cell? ⟨Bx, 1, none⟩ = some (.int .i64 x.2.1.f1) := (blk_cell vX 1).trans rfl
    have cX2 : V.cell? ⟨Bx, 2, none⟩ = some (.int .i64 x.2.2.f0) := (blk_cell vX 2).trans rfl
    have cX3 : V.cell? ⟨Bx, 3, none⟩ = some (.int .i64 x.2.2.f1) := (blk_cell vX 3).trans rfl
    have cN2 : V.cell? ⟨W.heap.size, 2, none⟩ = some (.int .i64 q.f0) := (blk_cell bN 2).trans rfl
    have cN3 : V.cell? ⟨W.heap.size, 3, none⟩ = some (.int .i64 q.f1) := (blk_cell bN 3).trans rfl
    obtain ⟨cv, hc44⟩ : ∃ c, prism_cross.f x.2.1.f0 x.2.1.f1 x.2.2.f0 x.2.2.f1 q.f0 q.f1 = some c := ⟨_, rfl⟩
    obtain ⟨u, hu⟩ : ∃ u, prism_upper.f x.2.1.f0 x.2.1.f1 x.2.2.f0 x.2.2.f1 = some u := by unfold prism_upper.f; split; exact ⟨_, rfl⟩; split <;> exact ⟨_, rfl⟩
    obtain ⟨v, hv⟩ : ∃ v, prism_upper.f x.2.2.f0 x.2.2.f1 q.f0 q.f1 = some v := by unfold prism_upper.f; split; exact ⟨_, rfl⟩; split <;> exact ⟨_, rfl⟩
    have hstep : cvx_step l0 x t = if cv ≤ 0 then none else if u = false ∧ v = true then some (wrap64 (t + 1)) else some t := by
      simp only [cvx_step, hq, hc44, hu, hv]
    have h1' : 1 ≤ 5 - 1 - 1 := by omega
    by_cases hc : cv ≤ 0
    · have hcb : decide (cv ≤ 0) = true := decide_eq_true hc
      have hcv2 : ∀ rest, cvx l0 (pre ++ [x] ++ rest) 0 = false := fun rest => by
        rw [List.append_assoc, hcv]
        simp only [List.singleton_append, cvx, hstep, if_pos hc]
      gi_wp2_with (refine ⟨trivial, ?_⟩; gi_at_call 44; refine (CallsIn.inRound l (callsIn_wide.2 (prism_cross.calls x.2.1.f0 x.2.1.f1 x.2.2.f0 x.2.2.f1 q.f0 q.f1 cv _ hc44))).mono ?_; rintro e w1 ⟨rfl, hb1⟩; have rR := boxed_past hb1 vR; have rc := rR.cell; have rf := rR.frozen; have rX := blk_past hb1 vX; have rN := blk_past hb1 bN; have rT := boxed_past hb1 vT; have tc := rT.cell; have tf := rT.frozen; clear cX0 cX1 cX2 cX3 cN2 cN3; have cX0 : w1.cell? ⟨Bx, 0, none⟩ = some (.int .i64 x.2.1.f0) := (blk_cell rX 0).trans rfl; have cX1 : w1.cell? ⟨Bx, 1, none⟩ = some (.int .i64 x.2.1.f1) := (blk_cell rX 1).trans rfl; have cX2 : w1.cell? ⟨Bx, 2, none⟩ = some (.int .i64 x.2.2.f0) := (blk_cell rX 2).trans rfl; have cX3 : w1.cell? ⟨Bx, 3, none⟩ = some (.int .i64 x.2.2.f1) := (blk_cell rX 3).trans rfl)
      exact ⟨((others_of_below hBV).trans ((others_of_below hb1).trans (KeepsOthers.setCell _ _ _))).from _, ⟨rfl, rR.set _, hcv2⟩, (hB1.trans ((hBV.mono hB1.size).trans (hb1.mono (Nat.le_trans hB1.size hBV.size)))).setCell (p := ⟨w.heap.size + 1, 0, none⟩) (by simp) _⟩
    · have hcb : decide (cv ≤ 0) = false := decide_eq_false hc
      have hok : ∀ Y, Below w.heap.size V Y → (∀ t', (if u = false ∧ v = true then some (wrap64 (t + 1)) else some t) = some t' → Boxed Y (w.heap.size + 1 + 1) 3 (.int .i64 t') → Boxed Y (w.heap.size + 1) 4 (.bool false) → Boxed Y w.heap.size 23 (.slice (some ad) l0.length c0) → Boxed Y (w.heap.size + 1 + 1 + 1) 23 (.slice (some ad) l0.length c0) → KeepsOthers V Y →
          KeepsFrom W0.heap.size W Y ∧ KeepB w.heap.size (w.heap.size + 1 + 1 + 1) W Y ∧ ((∃ t : Int, Boxed Y (w.heap.size + 1 + 1) 3 (.int .i64 t) ∧ Boxed Y (w.heap.size + 1) 4 (.bool false) ∧ Boxed Y w.heap.size 23 (.slice (some ad) l0.length c0) ∧ Boxed Y (w.heap.size + 1 + 1 + 1) 23 (.slice (some ad) l0.length c0) ∧ ∀ rest, cvx l0 (pre ++ [x] ++ rest) 0 = cvx l0 rest t) ∧ Below w.heap.size w Y)) := by
        intro Y hY t' ht' h1 h2 h3 h4 h5
        refine ⟨((others_of_below hBV).trans h5).from _, ⟨(hBV.mono hB1.size).trans hY, h4.trans (Eq.symm bE1)⟩, ⟨t', h1, h2, h3, h4, fun rest => ?_⟩, hB1.trans ((hBV.mono hB1.size).trans hY)⟩
        rw [List.append_assoc, hcv]
        simp only [List.singleton_append, cvx, hstep, if_neg hc, ht']
      cases u with
      | true =>
        gi_wp2_with (first | (refine ⟨trivial, ?_⟩; gi_at_call 44; refine (CallsIn.inRound l (callsIn_wide.2 (prism_cross.calls x.2.1.f0 x.2.1.f1 x.2.2.f0 x.2.2.f1 q.f0 q.f1 cv _ hc44))).mono ?_; rintro e w1 ⟨rfl, hb1⟩; have rR := boxed_past hb1 vR; have rc := rR.cell; have rf := rR.frozen; have rX := blk_past hb1 vX; have rN := blk_past hb1 bN; have rT := boxed_past hb1 vT; have tc := rT.cell; have tf := rT.frozen; clear cX0 cX1 cX2 cX3 cN2 cN3; have cX0 : w1.cell? ⟨Bx, 0, none⟩ = some (.int .i64 x.2.1.f0) := (blk_cell rX 0).trans rfl; have cX1 : w1.cell? ⟨Bx, 1, none⟩ = some (.int .i64 x.2.1.f1) := (blk_cell rX 1).trans rfl; have cX2 : w1.cell? ⟨Bx, 2, none⟩ = some (.int .i64 x.2.2.f0) := (blk_cell rX 2).trans rfl; have cX3 : w1.cell? ⟨Bx, 3, none⟩ = some (.int .i64 x.2.2.f1) := (blk_cell rX 3).trans rfl) | (refine ⟨trivial, ?_⟩; gi_at_call 50; refine (CallsIn.inRound l (callsIn_wide.2 (prism_upper.calls x.2.1.f0 x.2.1.f1 x.2.2.f0 x.2.2.f1 true _ hu))).mono ?_; clear hu; rintro e w2 ⟨rfl, hb2⟩; have uR := boxed_past hb2 rR; have uN := blk_past hb2 rN; have uT := boxed_past hb2 rT; have uc := uT.cell; have uf := uT.frozen; clear tc tf; have dN0 : w2.cell? ⟨W.heap.size, 0, none⟩ = some (.int .i64 x.2.2.f0) := (blk_cell uN 0).trans rfl; have dN1 : w2.cell? ⟨W.heap.size, 1, none⟩ = some (.int .i64 x.2.2.f1) := (blk_cell uN 1).trans rfl; have dN2 : w2.cell? ⟨W.heap.size, 2, none⟩ = some (.int .i64 q.f0) := (blk_cell uN 2).trans rfl; have dN3 : w2.cell? ⟨W.heap.size, 3, none⟩ = some (.int .i64 q.f1) := (blk_cell uN 3).trans rfl))
        refine ⟨trivial, ?_⟩
        gi_wp2
        refine hok _ ((hb1.mono (Nat.le_trans hB1.size hBV.size)).trans (hb2.mono (Nat.le_trans hB1.size (Nat.le_trans hBV.size hb1.size)))) t (by simp) uT uR (boxed_past hb2 (boxed_past hb1 vS)) (boxed_past hb2 (boxed_past hb1 vE)) ((others_of_below hb1).trans (others_of_below hb2))
      | false =>
        cases v with
        | false =>
          gi_wp2_with (first | (refine ⟨trivial, ?_⟩; gi_at_call 44; refine (CallsIn.inRound l (callsIn_wide.2 (prism_cross.calls x.2.1.f0 x.2.1.f1 x.2.2.f0 x.2.2.f1 q.f0 q.f1 cv _ hc44))).mono ?_; rintro e w1 ⟨rfl, hb1⟩; have rR := boxed_past hb1 vR; have rc := rR.cell; have rf := rR.frozen; have rX := blk_past hb1 vX; have rN := blk_past hb1 bN; have rT := boxed_past hb1 vT; have tc := rT.cell; have tf := rT.frozen; clear cX0 cX1 cX2 cX3 cN2 cN3; have cX0 : w1.cell? ⟨Bx, 0, none⟩ = some (.int .i64 x.2.1.f0) := (blk_cell rX 0).trans rfl; have cX1 : w1.cell? ⟨Bx, 1, none⟩ = some (.int .i64 x.2.1.f1) := (blk_cell rX 1).trans rfl; have cX2 : w1.cell? ⟨Bx, 2, none⟩ = some (.int .i64 x.2.2.f0) := (blk_cell rX 2).trans rfl; have cX3 : w1.cell? ⟨Bx, 3, none⟩ = some (.int .i64 x.2.2.f1) := (blk_cell rX 3).trans rfl) | (refine ⟨trivial, ?_⟩; gi_at_call 50; refine (CallsIn.inRound l (callsIn_wide.2 (prism_upper.calls x.2.1.f0 x.2.1.f1 x.2.2.f0 x.2.2.f1 false _ hu))).mono ?_; clear hu; rintro e w2 ⟨rfl, hb2⟩; have uR := boxed_past hb2 rR; have uN := blk_past hb2 rN; have uT := boxed_past hb2 rT; have uc := uT.cell; have uf := uT.frozen; clear tc tf; have dN0 : w2.cell? ⟨W.heap.size, 0, none⟩ = some (.int .i64 x.2.2.f0) := (blk_cell uN 0).trans rfl; have dN1 : w2.cell? ⟨W.heap.size, 1, none⟩ = some (.int .i64 x.2.2.f1) := (blk_cell uN 1).trans rfl; have dN2 : w2.cell? ⟨W.heap.size, 2, none⟩ = some (.int .i64 q.f0) := (blk_cell uN 2).trans rfl; have dN3 : w2.cell? ⟨W.heap.size, 3, none⟩ = some (.int .i64 q.f1) := (blk_cell uN 3).trans rfl) | (refine ⟨trivial, ?_⟩; gi_at_call 50; refine (CallsIn.inRound l (callsIn_wide.2 (prism_upper.calls x.2.2.f0 x.2.2.f1 q.f0 q.f1 false _ hv))).mono ?_; rintro e w3 ⟨rfl, hb3⟩; have vvR := boxed_past hb3 uR; have vvT := boxed_past hb3 uT; clear uc uf; have uc := vvT.cell; have uf := vvT.frozen))
          refine hok _ (((hb1.mono (Nat.le_trans hB1.size hBV.size)).trans (hb2.mono (Nat.le_trans hB1.size (Nat.le_trans hBV.size hb1.size)))).trans (hb3.mono (Nat.le_trans hB1.size (Nat.le_trans hBV.size (Nat.le_trans hb1.size hb2.size))))) t (by simp) vvT vvR (boxed_past hb3 (boxed_past hb2 (boxed_past hb1 vS))) (boxed_past hb3 (boxed_past hb2 (boxed_past hb1 vE))) ((others_of_below hb1).trans ((others_of_below hb2).trans (others_of_below hb3)))
        | true =>
          gi_wp2_with (first | (refine ⟨trivial, ?_⟩; gi_at_call 44; refine (CallsIn.inRound l (callsIn_wide.2 (prism_cross.calls x.2.1.f0 x.2.1.f1 x.2.2.f0 x.2.2.f1 q.f0 q.f1 cv _ hc44))).mono ?_; rintro e w1 ⟨rfl, hb1⟩; have rR := boxed_past hb1 vR; have rc := rR.cell; have rf := rR.frozen; have rX := blk_past hb1 vX; have rN := blk_past hb1 bN; have rT := boxed_past hb1 vT; have tc := rT.cell; have tf := rT.frozen; clear cX0 cX1 cX2 cX3 cN2 cN3; have cX0 : w1.cell? ⟨Bx, 0, none⟩ = some (.int .i64 x.2.1.f0) := (blk_cell rX 0).trans rfl; have cX1 : w1.cell? ⟨Bx, 1, none⟩ = some (.int .i64 x.2.1.f1) := (blk_cell rX 1).trans rfl; have cX2 : w1.cell? ⟨Bx, 2, none⟩ = some (.int .i64 x.2.2.f0) := (blk_cell rX 2).trans rfl; have cX3 : w1.cell? ⟨Bx, 3, none⟩ = some (.int .i64 x.2.2.f1) := (blk_cell rX 3).trans rfl) | (refine ⟨trivial, ?_⟩; gi_at_call 50; refine (CallsIn.inRound l (callsIn_wide.2 (prism_upper.calls x.2.1.f0 x.2.1.f1 x.2.2.f0 x.2.2.f1 false _ hu))).mono ?_; clear hu; rintro e w2 ⟨rfl, hb2⟩; have uR := boxed_past hb2 rR; have uN := blk_past hb2 rN; have uT := boxed_past hb2 rT; have uc := uT.cell; have uf := uT.frozen; clear tc tf; have dN0 : w2.cell? ⟨W.heap.size, 0, none⟩ = some (.int .i64 x.2.2.f0) := (blk_cell uN 0).trans rfl; have dN1 : w2.cell? ⟨W.heap.size, 1, none⟩ = some (.int .i64 x.2.2.f1) := (blk_cell uN 1).trans rfl; have dN2 : w2.cell? ⟨W.heap.size, 2, none⟩ = some (.int .i64 q.f0) := (blk_cell uN 2).trans rfl; have dN3 : w2.cell? ⟨W.heap.size, 3, none⟩ = some (.int .i64 q.f1) := (blk_cell uN 3).trans rfl) | (refine ⟨trivial, ?_⟩; gi_at_call 50; refine (CallsIn.inRound l (callsIn_wide.2 (prism_upper.calls x.2.2.f0 x.2.2.f1 q.f0 q.f1 true _ hv))).mono ?_; rintro e w3 ⟨rfl, hb3⟩; have vvR := boxed_past hb3 uR; have vvT := boxed_past hb3 uT; clear uc uf; have uc := vvT.cell; have uf := vvT.frozen))
          refine hok _ ((((hb1.mono (Nat.le_trans hB1.size hBV.size)).trans (hb2.mono (Nat.le_trans hB1.size (Nat.le_trans hBV.size hb1.size)))).trans (hb3.mono (Nat.le_trans hB1.size (Nat.le_trans hBV.size (Nat.le_trans hb1.size hb2.size))))).setCell (p := ⟨w.heap.size + 1 + 1, 0, none⟩) (by simp; omega) _) (wrap64 (t + 1)) (by simp) (vvT.set _) (vvR.other (show w.heap.size + 1 ≠ w.heap.size + 1 + 1 by omega) _) ((boxed_past hb3 (boxed_past hb2 (boxed_past hb1 vS))).other (show w.heap.size ≠ w.heap.size + 1 + 1 by omega) _) ((boxed_past hb3 (boxed_past hb2 (boxed_past hb1 vE))).other (show w.heap.size + 1 + 1 + 1 ≠ w.heap.size + 1 + 1 by omega) _) ((others_of_below hb1).trans ((others_of_below hb2).trans ((others_of_below hb3).trans (KeepsOthers.setCell _ _ _))))
  case done =>
    rintro D ys W hD rfl ⟨⟨t, bT1, bR1, bS1, bE1, hcv⟩, hB1⟩ hK
    have tc := bT1.cell
    have rc := bR1.cell
    have rf := bR1.frozen
    have hfin : decide (t = 1) = r := by
      have := hcv []
      rw [List.append_nil] at this
      rw [← hr, this]
      rfl
    gi_wp2
    have hK' := (KeepsOthers.setCell W ⟨w.heap.size + 1, 0, none⟩ (.bool (t == 1))).same D _ hK rfl
    have hc5 := cell_kept (World.cell?_setCell_same' W ⟨w.heap.size + 1, 0, none⟩ (.bool (t == 1)) (by rw [rc]; rfl)) (grownBy_putObj' _ D (.deferred none)) (fun r e => by cases e; exact ⟨_, hK', rfl⟩)
    refine ⟨by simp, .inl ⟨_, _, rfl, run_takeDeferred hK', ?_⟩⟩
    refine ⟨.bool (t == 1), ?_, ⟨by rw [← hfin]; congr 2, (hB1.setCell (p := ⟨w.heap.size + 1, 0, none⟩) (by simp) _).trans (belowK_b (w := w) (Nat.le_refl _) _ D _ _ (by omega) hK' rfl rfl)⟩⟩
    simp [results, Try.f39, go_sem, hc5]
  case stop =>
    rintro D c pre W hD ⟨k, hk, rfl⟩ ⟨⟨rfl, bR1, hcv⟩, hB1⟩ hK
    have hrf : r = false := by
      rw [← hr, show edge_upto l0 l0.length = edge_upto l0 k ++ (edge_upto l0 l0.length).drop k by
        conv => lhs; rw [← List.take_append_drop k (edge_upto l0 l0.length)]
        congr 1
        simp [edge_upto, ← List.map_take, List.take_range, Nat.min_eq_left hk]]
      exact hcv _
    subst hrf
    have rc := bR1.cell
    gi_wp2
    have hc5 := cell_kept rc (grownBy_putObj' _ D (.deferred none)) (fun r e => by cases e; exact ⟨_, hK, rfl⟩)
    refine ⟨by simp, .inl ⟨_, _, rfl, run_takeDeferred hK, ?_⟩⟩
    refine ⟨.bool false, ?_, rfl, hB1.trans (belowK_b (w := w) (Nat.le_refl _) W D _ _ (by omega) hK rfl rfl)⟩
    simp [results, Try.f39, go_sem, hc5]
end Go.Proofs.Ythogemdknlpnpaa.XA
