/- listsOf: for each thing the things behind and before it. -/
import Derived.Test.YtecbmcheojolnaaXAx0
namespace Go.Proofs.Ytecbmcheojolnaa.XA
open Go.RowKit Go.Proofs.Ytecbmcheojolnaa.Opens Go.Proofs.YtecbmcheojolnaaW.PrintWords Go.Proofs.YtecbmcheojolnaaW.PrintLast Go.Proofs.YtecbmcheojolnaaW.PrintMore
attribute [local go_sem] max2_int min2_int max_two min_two max_three min_three max_four min_four cell_some cell_same   -- for this text's walks alone
set_option linter.unusedVariables false
set_option linter.unusedSimpArgs false

theorem infoL27 : (Try.prog.info? 27).map (fun i => (i.zero, i.size, i.bytes)) = some (some (.slice none 0 0), 1, 24) := by kernel_rfl
section
variable {α β : Type} {d : Kd α} {d' : Kd β} {e e' : Nat} {W w1 : World} {base base' : Nat} {ok ok2 P : Nat → Prop} {u v : Value} {xs : List α} {ys : List β}
/-- Two rows that lead to apart sets of blocks: the first takes what is new. -/
theorem S_partA (h0 : Kd.S d e W base (fun k => P k) v xs) (h1 : Kd.S d' e' W base' (fun k => ¬ P k) u ys) : ∃ Q : Nat → Prop, (∀ k, W.heap.size ≤ k → Q k) ∧ Kd.S d e W base (fun k => Q k) v xs ∧ Kd.S d' e' W base' (fun k => ¬ Q k) u ys :=
  ⟨fun k => P k ∨ W.heap.size ≤ k, fun _ h => .inr h, Kd.S_mono h0 (fun _ h => .inl h), Kd.S_mono (Kd.S_bound h1) (fun k h hq => hq.elim h.1 (fun h2 => by have := h.2.2.1; omega))⟩
/-- The second takes what is new. -/
theorem S_partB (h0 : Kd.S d e W base (fun k => P k) v xs) (h1 : Kd.S d' e' W base' (fun k => ¬ P k) u ys) : ∃ Q : Nat → Prop, (∀ k, W.heap.size ≤ k → ¬ Q k) ∧ Kd.S d e W base (fun k => Q k) v xs ∧ Kd.S d' e' W base' (fun k => ¬ Q k) u ys :=
  ⟨fun k => P k ∧ k < W.heap.size, fun k h hq => by have := hq.2; omega, Kd.S_mono (Kd.S_bound h0) (fun _ h => ⟨h.1, h.2.2.1⟩), Kd.S_mono h1 (fun _ h hq => h hq.1)⟩
/-- What is made is apart from what is elder. -/
theorem S_twoA (h : Kd.S d e W base ok u xs) (ho : Kd.S d' e' w1 W.heap.size ok2 v ys) (hb : Below W.heap.size W w1) : ∃ Q : Nat → Prop, Kd.S d e w1 base (fun k => ¬ Q k) u xs ∧ Kd.S d' e' w1 W.heap.size (fun k => Q k) v ys :=
  ⟨fun k => W.heap.size ≤ k, Kd.S_mono (Kd.S_below (Kd.S_bound h) hb) (fun k h h2 => by have := h.2.2.1; omega), Kd.S_mono (Kd.S_bound ho) (fun _ h => h.2.1)⟩
theorem S_twoB (h : Kd.S d e W base ok u xs) (ho : Kd.S d' e' w1 W.heap.size ok2 v ys) (hb : Below W.heap.size W w1) : ∃ Q : Nat → Prop, Kd.S d e w1 base (fun k => Q k) u xs ∧ Kd.S d' e' w1 W.heap.size (fun k => ¬ Q k) v ys :=
  ⟨fun k => k < W.heap.size, Kd.S_mono (Kd.S_below (Kd.S_bound h) hb) (fun _ h => h.2.2.1), Kd.S_mono (Kd.S_bound ho) (fun k h h2 => by have := h.2.1; omega)⟩
end
def precedence_listsOf.l0 : Nat → List (S47) → Int → Int → List (List Int) → List (List Int) → Option ((List (List Int)) × (List (List Int)))
  | 0, _, _, _, _, _ => none
  | k + 1, x14, x15, x16, x121000, x121001 => if x16 < x15 then (if 0 ≤ x16 then (if x16 < (x14.length : Int) then (if 0 ≤ ((rd_T47 x14 x16).f0) then (if ((rd_T47 x14 x16).f0) < (x121000.length : Int) then (if (rd_L2 x121000 ((rd_T47 x14 x16).f0)).length < 17592186044416 then (if 0 ≤ ((rd_T47 x14 x16).f1) then (if ((rd_T47 x14 x16).f1) < (x121001.length : Int) then (if (rd_L2 x121001 ((rd_T47 x14 x16).f1)).length < 17592186044416 then (precedence_listsOf.l0 k x14 x15 (wrap64 (x16 + 1)) (x121000.set (((rd_T47 x14 x16).f0) : Int).toNat ((rd_L2 x121000 ((rd_T47 x14 x16).f0)) ++ [(rd_T47 x14 x16).f1])) (x121001.set (((rd_T47 x14 x16).f1) : Int).toNat ((rd_L2 x121001 ((rd_T47 x14 x16).f1)) ++ [(rd_T47 x14 x16).f0]))) else (none)) else (none)) else (none)) else (none)) else (none)) else (none)) else (none)) else (none)) else (some (x121000, x121001))
def precedence_listsOf.f (k : Nat) (a0_0 : Int) (l0_1 : List (S47)) : Option ((List (List Int)) × (List (List Int))) := if 0 ≤ a0_0 then (if (a0_0 : Int).toNat ≤ 11728124029610 then (precedence_listsOf.l0 k l0_1 (l0_1.length : Int) 0 (List.replicate (a0_0 : Int).toNat []) (List.replicate (a0_0 : Int).toNat [])) else (none)) else (none)
theorem precedence_listsOf.mono_l : ∀ k, (∀ y0 y1 y2 y3 y4, LeO (precedence_listsOf.l0 k y0 y1 y2 y3 y4) (precedence_listsOf.l0 (k + 1) y0 y1 y2 y3 y4))
  | 0 => fun _ _ _ _ _ r h => by simp [precedence_listsOf.l0] at h
  | k + 1 => by
    have ih0 := precedence_listsOf.mono_l k
    intro y0 y1 y2 y3 y4
    unfold precedence_listsOf.l0
    repeat' first
    | (with_reducible exact ih0 _ _ _ _ _)
    | (with_reducible exact LeO.refl _)
    | (with_reducible refine LeO.ite ?_ ?_)
      
theorem precedence_listsOf.mono : ∀ a0 a1 k, LeO (precedence_listsOf.f k a0 a1) (precedence_listsOf.f (k + 1) a0 a1) := by
  intro a0 a1 k
  have ih0 := precedence_listsOf.mono_l k
  unfold precedence_listsOf.f
  repeat' first
      | (with_reducible exact ih0 _ _ _ _ _)
      | (with_reducible exact LeO.refl _)
      | (with_reducible refine LeO.ite ?_ ?_)
      
def precedence_listsOf.T1 : Bool × List (List Nat × List Nat) := (true, [([], []), ([0], [0]), ([1, 1], [1]), ([], []), ([3], [3]), ([4, 4], [4]), ([2, 5], [2, 5]), ([], []), ([7, 6, 0, 1, 2, 3, 4, 5, 6, 7], [6, 7])])
def precedence_listsOf.B1 : List Nat := [0, 1, 3, 0, 8, 24, 63, 0, 255]
theorem precedence_listsOf.tab1 : rtab .any (opsOf Try.f28 1) = precedence_listsOf.T1 := by kernel_rfl
theorem precedence_listsOf.bits1 : waitsOk precedence_listsOf.T1.2 precedence_listsOf.B1 = true := by kernel_rfl
def precedence_listsOf.T5 : Bool × List (List Nat × List Nat) := (true, [([], []), ([0], [0]), ([], []), ([2], [2]), ([], []), ([4], [4]), ([], []), ([6], [6]), ([5, 7], [5, 7]), ([8], [8]), ([], []), ([10], [10]), ([11], [11]), ([9, 12], [9, 12]), ([1, 3, 0, 1, 2, 3, 4, 5, 6, 7, 8, 9, 10, 11, 12, 13], [1, 3]), ([14, 13, 13, 0, 1, 2, 3, 4, 5, 6, 7, 8, 9, 10, 11, 12, 13], [13, 14])])
def precedence_listsOf.B5 : List Nat := [0, 1, 0, 4, 0, 16, 0, 64, 240, 496, 0, 1024, 3072, 8176, 16383, 32767]
theorem precedence_listsOf.tab5 : rtab .any (opsOf Try.f28 5) = precedence_listsOf.T5 := by kernel_rfl
theorem precedence_listsOf.bits5 : waitsOk precedence_listsOf.T5.2 precedence_listsOf.B5 = true := by kernel_rfl
def precedence_listsOf.T6 : Bool × List (List Nat × List Nat) := (true, [([], []), ([0], [0]), ([], []), ([2], [2]), ([], []), ([4], [4]), ([], []), ([6], [6]), ([5, 7], [5, 7]), ([8], [8]), ([], []), ([10], [10]), ([11], [11]), ([9, 12], [9, 12]), ([1, 3, 0, 1, 2, 3, 4, 5, 6, 7, 8, 9, 10, 11, 12, 13], [1, 3]), ([14, 13, 13, 0, 1, 2, 3, 4, 5, 6, 7, 8, 9, 10, 11, 12, 13], [13, 14])])
def precedence_listsOf.B6 : List Nat := [0, 1, 0, 4, 0, 16, 0, 64, 240, 496, 0, 1024, 3072, 8176, 16383, 32767]
theorem precedence_listsOf.tab6 : rtab .any (opsOf Try.f28 6) = precedence_listsOf.T6 := by kernel_rfl
theorem precedence_listsOf.bits6 : waitsOk precedence_listsOf.T6.2 precedence_listsOf.B6 = true := by kernel_rfl
set_option maxHeartbeats 8000000 in
set_option maxRecDepth 100000 in
theorem precedence_listsOf.calls (k : Nat) (a0_0 : Int) (A0_1 : Option Addr) (c0_1 : Nat) (l0_1 : List (S47)) (r1 : List (List Int)) (r2 : List (List Int)) (w : World) (hr0_1 : Kd.C k47 w A0_1 l0_1.length l0_1) (hc0_1 : l0_1.length ≤ c0_1) (h : precedence_listsOf.f k a0_0 l0_1 = some (r1, r2)) :
    Calls Try.prog 28 #[.agg #[.int .i64 a0_0, .slice A0_1 l0_1.length c0_1]] w fun e w' => ∃ v0_ v1_ : Value, e = .returned (.agg #[v0_, v1_]) ∧ Kd.S (Kd.slice 3 (Kd.int .i64)) 27 w' w.heap.size (fun k_ => some k_ ≠ (v1_ : Value).ownBlock) v0_ r1 ∧ Kd.S (Kd.slice 3 (Kd.int .i64)) 27 w' w.heap.size (fun k_ => some k_ ≠ (v0_ : Value).ownBlock) v1_ r2 ∧ Below w.heap.size w w' := by
  have hu31 := Try.underlying31
  have hu50 := Try.underlying50
  have hu47 := Try.underlying47
  have HR0_1 := ak hr0_1
  have HC0_1 := ak hc0_1
  clear hr0_1 hc0_1
  have HB := ak (Below.refl w.heap.size w)
  have H : (if 0 ≤ a0_0 then (if (a0_0 : Int).toNat ≤ 11728124029610 then (precedence_listsOf.l0 k l0_1 (l0_1.length : Int) 0 (List.replicate (a0_0 : Int).toNat []) (List.replicate (a0_0 : Int).toNat [])) else (none)) else (none)) = some (r1, r2) := h
  clear h
  by_cases c2 : 0 ≤ a0_0
  · rw [if_pos c2] at H
    have c2b0 := eq_true c2
    have c2b1 : decide (0 ≤ a0_0) = true := decide_eq_true c2
    clear c2
    by_cases c3 : (a0_0 : Int).toNat ≤ 11728124029610
    · rw [if_pos c3] at H
      have c3b0 := eq_true c3
      have c3b1 : decide ((a0_0 : Int).toNat ≤ 11728124029610) = true := decide_eq_true c3
      clear c3
      obtain ⟨y114, hy114⟩ : ∃ y_ : List (List Int), y_ = (List.replicate (a0_0 : Int).toNat []) := ⟨_, rfl⟩
      replace H : (precedence_listsOf.l0 k l0_1 (l0_1.length : Int) 0 y114 (List.replicate (a0_0 : Int).toNat [])) = some (r1, r2) := by (rw [hy114]; with_reducible exact H)
      have Ny114 := ak hy114
      clear hy114
      obtain ⟨y117, hy117⟩ : ∃ y_ : List (List Int), y_ = (List.replicate (a0_0 : Int).toNat []) := ⟨_, rfl⟩
      replace H : (precedence_listsOf.l0 k l0_1 (l0_1.length : Int) 0 y114 y117) = some (r1, r2) := by (rw [hy117]; with_reducible exact H)
      have Ny117 := ak hy117
      clear hy117
      have H' := ak H
      clear H
      go_enter Try.func28, Try.ntmps28
      try go_wp2_with (first | ((with_reducible refine gate_dst (N := 1) rfl ?_); refine box_event ?hg (N := 1) ?hd (cs := #[.int .i64 a0_0, .slice A0_1 l0_1.length c0_1]) (t := 31) ?hr ?_; (case hd => rfl); (case hg => rfl); (case hr => (go_simp; done)); intro gb112 hg w4 hbox hb; have n0_ := ak (below_step HB.1 hb); have n1_ := ak (hbox); have n2_ := ak ((by rw [hg]; exact (below_size HB.1) : w.heap.size ≤ gb112)); have n3_ := ak ((by rw [hg]; exact (below_size HB.1) : w.heap.size ≤ gb112)); clear HB; have HB := n0_; have BK112 := n1_; have GW112 := n2_; have GE112 := n3_; clear n0_ n1_ n2_ n3_; clear hb hbox hg) | ((with_reducible refine gate_dst (N := 2) rfl ?_); refine box_event ?hg (N := 2) ?hd (cs := #[.slice none 0 0, .slice none 0 0]) (t := 50) ?hr ?_; (case hd => rfl); (case hg => rfl); (case hr => (go_simp; done)); intro gb113 hg w5 hbox hb; have n0_ := ak (blk_below (g := gb112) (o := .cells #[.int .i64 a0_0, .slice A0_1 l0_1.length c0_1] 31 (0, 0)) (by exact BK112.1) hb); have n1_ := ak (below_step HB.1 hb); have n2_ := ak (hbox); have n3_ := ak ((by rw [hg]; exact (below_size HB.1) : w.heap.size ≤ gb113)); have n4_ := ak ((by rw [hg]; exact (below_size HB.1) : w.heap.size ≤ gb113)); have n5_ := ak ((by rw [hg]; exact Nat.ne_of_lt (blk_lt (g := gb112) (o := .cells #[.int .i64 a0_0, .slice A0_1 l0_1.length c0_1] 31 (0, 0)) (by exact BK112.1)) : gb112 ≠ gb113)); have n6_ := ak ((by rw [hg]; exact Nat.ne_of_gt (blk_lt (g := gb112) (o := .cells #[.int .i64 a0_0, .slice A0_1 l0_1.length c0_1] 31 (0, 0)) (by exact BK112.1)) : gb113 ≠ gb112)); clear BK112; clear HB; have BK112 := n0_; have HB := n1_; have BK113 := n2_; have GW113 := n3_; have GE113 := n4_; have NB112_113 := n5_; have NB113_112 := n6_; clear n0_ n1_ n2_ n3_ n4_ n5_ n6_; clear hb hbox hg))
      have n0_ := ak (blk_drew BK112.1)
      have n1_ := ak (blk_drew BK113.1)
      have n2_ := ak (below_drew1 HB.1)
      clear BK112
      clear BK113
      clear HB
      have BK112 := n0_
      have BK113 := n1_
      have HB := n2_
      clear n0_ n1_ n2_
      refine start_ (n := 9) (S := fun w' => w'.cell? ⟨gb112, 0, none⟩ = some (.int .i64 a0_0) ∧ w'.cell? ⟨gb112, 1, none⟩ = some (.slice A0_1 l0_1.length c0_1)) (ds := []) #[false, false, false, false, false, false, false, false, false] (by kernel_rfl) rfl rfl ⟨(blk_cell BK112.1 0).trans rfl, (blk_cell BK112.1 1).trans rfl⟩ (fun hHeld => ?_); refine with_tabW precedence_listsOf.tab1 precedence_listsOf.bits1 (fun HT_ HW_ => ?_)
      generalize w5.drew = w6 at BK112 BK113 HB hHeld ⊢
      refine pure_ (i := 0) (N := some 6) (v := ?_) (a' := ?_) #[true, false, false, false, false, false, false, false, false] rfl rfl (any_of HT_.1 (by kernel_rfl)) (fun _ _ _ h => h) (Or.inl ⟨by rfl, ?_⟩) ?_ ?_
      rotate_left
      · intro w'
        go_simp
        with_reducible rfl
      rotate_left
      · simp only [Act.put, List.setIfInBounds_toArray, List.set_cons_zero, List.set_cons_succ, i64_w, i32_w]
        rfl
      refine pure_ (i := 3) (N := some 9) (v := ?_) (a' := ?_) #[true, false, false, true, false, false, false, false, false] rfl rfl (any_of HT_.1 (by kernel_rfl)) (fun _ _ _ h => h) (Or.inl ⟨by rfl, ?_⟩) ?_ ?_
      rotate_left
      · intro w'
        go_simp
        with_reducible rfl
      rotate_left
      · simp only [Act.put, List.setIfInBounds_toArray, List.set_cons_zero, List.set_cons_succ, i64_w, i32_w]
        rfl
      refine take_ (i := 1) (N := some 7) (v := ?_) (a' := ?_) #[true, true, false, true, false, false, false, false, false] rfl rfl (take_ofW HT_.1 HW_.1 (by kernel_rfl)) (fun _ _ _ h => h) (Or.inl ⟨by rfl, ?_⟩) hHeld ?_ ?_
      rotate_left
      · rintro w' ⟨s0, s1⟩
        go_simp
        with_reducible rfl
      rotate_left
      · simp only [Act.put, List.setIfInBounds_toArray, List.set_cons_zero, List.set_cons_succ, i64_w, i32_w]
        rfl
      refine take_ (i := 4) (N := some 10) (v := ?_) (a' := ?_) #[true, true, false, true, true, false, false, false, false] rfl rfl (take_ofW HT_.1 HW_.1 (by kernel_rfl)) (fun _ _ _ h => h) (Or.inl ⟨by rfl, ?_⟩) hHeld ?_ ?_
      rotate_left
      · rintro w' ⟨s0, s1⟩
        go_simp
        with_reducible rfl
      rotate_left
      · simp only [Act.put, List.setIfInBounds_toArray, List.set_cons_zero, List.set_cons_succ, i64_w, i32_w]
        rfl
      refine join_ (σ := Value × Value × Nat × (Nat → Prop)) 1 #[true, true, true, true, true, true, true, true, false] (fun s_ => [(8, s_.1), (11, s_.2.1), (3, .pointer (some ⟨s_.2.2.1, 0, none⟩)), (12, .agg #[s_.1, s_.2.1])]) (fun s_ w' => (w'.cell? ⟨gb112, 0, none⟩ = some (.int .i64 a0_0) ∧ w'.cell? ⟨gb112, 1, none⟩ = some (.slice A0_1 l0_1.length c0_1)) ∧ (Kd.S (Kd.slice 3 (Kd.int .i64)) 27 w' w.heap.size (fun k_ => s_.2.2.2 k_) s_.1 y114) ∧ (Kd.S (Kd.slice 3 (Kd.int .i64)) 27 w' w.heap.size (fun k_ => ¬ s_.2.2.2 k_) s_.2.1 y117) ∧ (w'.heap[gb112]? = some (.cells #[.int .i64 a0_0, .slice A0_1 l0_1.length c0_1] 31 (0, 0))) ∧ (w'.heap[gb113]? = some (.cells #[.slice none 0 0, .slice none 0 0] 50 (0, 0))) ∧ (w'.heap[s_.2.2.1]? = some (.cells #[.slice none 0 0, .slice none 0 0] 50 (0, 0))) ∧ (w.heap.size ≤ s_.2.2.1) ∧ (w.heap.size ≤ s_.2.2.1) ∧ (gb112 ≠ s_.2.2.1) ∧ (s_.2.2.1 ≠ gb112) ∧ (gb113 ≠ s_.2.2.1) ∧ (s_.2.2.1 ≠ gb113) ∧ (Below w.heap.size w w')) ?_ ?_
      rotate_left
      · intro hJ2_5_7
        refine join_ (σ := Value × Value × (Nat → Prop)) 2 #[true, true, true, true, true, true, true, false, false] (fun s_ => [(8, s_.1), (11, s_.2.1), (12, .agg #[s_.1, s_.2.1])]) (fun s_ w' => (w'.cell? ⟨gb112, 0, none⟩ = some (.int .i64 a0_0) ∧ w'.cell? ⟨gb112, 1, none⟩ = some (.slice A0_1 l0_1.length c0_1)) ∧ (Kd.S (Kd.slice 3 (Kd.int .i64)) 27 w' w.heap.size (fun k_ => s_.2.2 k_) s_.1 y114) ∧ (Kd.S (Kd.slice 3 (Kd.int .i64)) 27 w' w.heap.size (fun k_ => ¬ s_.2.2 k_) s_.2.1 y117) ∧ (w'.heap[gb112]? = some (.cells #[.int .i64 a0_0, .slice A0_1 l0_1.length c0_1] 31 (0, 0))) ∧ (w'.heap[gb113]? = some (.cells #[.slice none 0 0, .slice none 0 0] 50 (0, 0))) ∧ (Below w.heap.size w w')) ?_ ?_
        rotate_left
        · intro hJ2_5
          refine join_ (σ := Value × Nat) 3 #[true, true, true, true, true, false, false, true, false] (fun s_ => [(8, s_.1), (3, .pointer (some ⟨s_.2, 0, none⟩))]) (fun s_ w' => (w'.cell? ⟨gb112, 0, none⟩ = some (.int .i64 a0_0) ∧ w'.cell? ⟨gb112, 1, none⟩ = some (.slice A0_1 l0_1.length c0_1)) ∧ (Kd.S (Kd.slice 3 (Kd.int .i64)) 27 w' w.heap.size (fun _ => True) s_.1 y114) ∧ (w'.heap[gb112]? = some (.cells #[.int .i64 a0_0, .slice A0_1 l0_1.length c0_1] 31 (0, 0))) ∧ (w'.heap[gb113]? = some (.cells #[.slice none 0 0, .slice none 0 0] 50 (0, 0))) ∧ (w'.heap[s_.2]? = some (.cells #[.slice none 0 0, .slice none 0 0] 50 (0, 0))) ∧ (w.heap.size ≤ s_.2) ∧ (w.heap.size ≤ s_.2) ∧ (gb112 ≠ s_.2) ∧ (s_.2 ≠ gb112) ∧ (gb113 ≠ s_.2) ∧ (s_.2 ≠ gb113) ∧ (Below w.heap.size w w')) ?_ ?_
          rotate_left
          · intro hJ2_7
            refine join_ (σ := Value × Nat) 3 #[true, true, false, true, true, true, false, true, false] (fun s_ => [(11, s_.1), (3, .pointer (some ⟨s_.2, 0, none⟩))]) (fun s_ w' => (w'.cell? ⟨gb112, 0, none⟩ = some (.int .i64 a0_0) ∧ w'.cell? ⟨gb112, 1, none⟩ = some (.slice A0_1 l0_1.length c0_1)) ∧ (Kd.S (Kd.slice 3 (Kd.int .i64)) 27 w' w.heap.size (fun _ => True) s_.1 y117) ∧ (w'.heap[gb112]? = some (.cells #[.int .i64 a0_0, .slice A0_1 l0_1.length c0_1] 31 (0, 0))) ∧ (w'.heap[gb113]? = some (.cells #[.slice none 0 0, .slice none 0 0] 50 (0, 0))) ∧ (w'.heap[s_.2]? = some (.cells #[.slice none 0 0, .slice none 0 0] 50 (0, 0))) ∧ (w.heap.size ≤ s_.2) ∧ (w.heap.size ≤ s_.2) ∧ (gb112 ≠ s_.2) ∧ (s_.2 ≠ gb112) ∧ (gb113 ≠ s_.2) ∧ (s_.2 ≠ gb113) ∧ (Below w.heap.size w w')) ?_ ?_
            rotate_left
            · intro hJ5_7
              refine join_ (σ := Value) 4 #[true, true, true, true, true, false, false, false, false] (fun s_ => [(8, s_)]) (fun s_ w' => (w'.cell? ⟨gb112, 0, none⟩ = some (.int .i64 a0_0) ∧ w'.cell? ⟨gb112, 1, none⟩ = some (.slice A0_1 l0_1.length c0_1)) ∧ (Kd.S (Kd.slice 3 (Kd.int .i64)) 27 w' w.heap.size (fun _ => True) s_ y114) ∧ (w'.heap[gb112]? = some (.cells #[.int .i64 a0_0, .slice A0_1 l0_1.length c0_1] 31 (0, 0))) ∧ (w'.heap[gb113]? = some (.cells #[.slice none 0 0, .slice none 0 0] 50 (0, 0))) ∧ (Below w.heap.size w w')) ?_ ?_
              rotate_left
              · intro hJ2
                refine join_ (σ := Value) 4 #[true, true, false, true, true, true, false, false, false] (fun s_ => [(11, s_)]) (fun s_ w' => (w'.cell? ⟨gb112, 0, none⟩ = some (.int .i64 a0_0) ∧ w'.cell? ⟨gb112, 1, none⟩ = some (.slice A0_1 l0_1.length c0_1)) ∧ (Kd.S (Kd.slice 3 (Kd.int .i64)) 27 w' w.heap.size (fun _ => True) s_ y117) ∧ (w'.heap[gb112]? = some (.cells #[.int .i64 a0_0, .slice A0_1 l0_1.length c0_1] 31 (0, 0))) ∧ (w'.heap[gb113]? = some (.cells #[.slice none 0 0, .slice none 0 0] 50 (0, 0))) ∧ (Below w.heap.size w w')) ?_ ?_
                rotate_left
                · intro hJ5
                  refine join_ (σ := Nat) 4 #[true, true, false, true, true, false, false, true, false] (fun s_ => [(3, .pointer (some ⟨s_, 0, none⟩))]) (fun s_ w' => (w'.cell? ⟨gb112, 0, none⟩ = some (.int .i64 a0_0) ∧ w'.cell? ⟨gb112, 1, none⟩ = some (.slice A0_1 l0_1.length c0_1)) ∧ (w'.heap[gb112]? = some (.cells #[.int .i64 a0_0, .slice A0_1 l0_1.length c0_1] 31 (0, 0))) ∧ (w'.heap[gb113]? = some (.cells #[.slice none 0 0, .slice none 0 0] 50 (0, 0))) ∧ (w'.heap[s_]? = some (.cells #[.slice none 0 0, .slice none 0 0] 50 (0, 0))) ∧ (w.heap.size ≤ s_) ∧ (w.heap.size ≤ s_) ∧ (gb112 ≠ s_) ∧ (s_ ≠ gb112) ∧ (gb113 ≠ s_) ∧ (s_ ≠ gb113) ∧ (Below w.heap.size w w')) ?_ ?_
                  rotate_left
                  · intro hJ7
                    refine three_ (i := 2) (j := 5) (k := 7) (Ni := some 8) (Nj := some 11) (Nk := some 3) #[true, true, true, true, true, false, false, false, false] #[true, true, false, true, true, true, false, false, false] #[true, true, false, true, true, false, false, true, false] rfl rfl rfl rfl rfl rfl (three_of HT_.1 (by kernel_rfl)) (by decide) (by decide) (by decide) (fun K hK => ?_) (fun K hK => ?_) (fun K hK => ?_)
                    · skip
                      refine Kd.S_make_step (Kd.slice 3 (Kd.int .i64)) _ 27 (by rfl) (N := 8) rfl 48 _ _ rfl a0_0 rfl rfl Try.underlying48 (.slice none 0 0) 24 infoL27 rfl (by decide) (by omega) [] (ok := fun _ => True) (okp := fun _ => True) ⟨_, rfl, Kd.R_nil _ _ _ _ _⟩ (fun _ hk => hk) trivial (od_) (Nat.le_trans (Nat.mul_le_mul_right _ (od_ : a0_0.toNat ≤ 11728124029610)) (by omega)) (Below.refl _ _) (Nat.le_refl _) ?_
                      intro v115 w7 ho8 hb hg_ hnew_
                      clear hg_ hnew_
                      rw [← Ny114.1] at ho8
                      have n0_ := ak (Kd.S_lower ho8 (below_size HB.1))
                      have n1_ := ak (blk_below (g := gb112) (o := .cells #[.int .i64 a0_0, .slice A0_1 l0_1.length c0_1] 31 (0, 0)) (by exact BK112.1) hb)
                      have n2_ := ak (blk_below (g := gb113) (o := .cells #[.slice none 0 0, .slice none 0 0] 50 (0, 0)) (by exact BK113.1) hb)
                      have n3_ := ak (below_step HB.1 hb)
                      clear BK112
                      clear BK113
                      clear HB
                      have HO116 := n0_
                      have BK112 := n1_
                      have BK113 := n2_
                      have HB := n3_
                      clear n0_ n1_ n2_ n3_
                      clear hb ho8
                      refine hK.out _ _ ⟨(blk_cell BK112.1 0).trans rfl, (blk_cell BK112.1 1).trans rfl⟩ (fun hHeld => ?_)
                      clear hK K
                      refine norm_ (a' := ?_) ?_ ?_
                      rotate_left
                      · show Act.put _ (some 8) _ = _
                        simp only [Act.put, List.setIfInBounds_toArray, List.set_cons_zero, List.set_cons_succ, i64_w, i32_w]
                        rfl
                      exact norm_ (by (simp only [putAll, Act.put, List.setIfInBounds_toArray, List.set_cons_zero, List.set_cons_succ]; done)) (hJ2 (v115) _ ⟨hHeld, (by exact HO116.1), (by exact BK112.1), (by exact BK113.1), HB.1⟩)
                    · skip
                      refine Kd.S_make_step (Kd.slice 3 (Kd.int .i64)) _ 27 (by rfl) (N := 11) rfl 48 _ _ rfl a0_0 rfl rfl Try.underlying48 (.slice none 0 0) 24 infoL27 rfl (by decide) (by omega) [] (ok := fun _ => True) (okp := fun _ => True) ⟨_, rfl, Kd.R_nil _ _ _ _ _⟩ (fun _ hk => hk) trivial (od_) (Nat.le_trans (Nat.mul_le_mul_right _ (od_ : a0_0.toNat ≤ 11728124029610)) (by omega)) (Below.refl _ _) (Nat.le_refl _) ?_
                      intro v118 w7 ho8 hb hg_ hnew_
                      clear hg_ hnew_
                      rw [← Ny117.1] at ho8
                      have n0_ := ak (Kd.S_lower ho8 (below_size HB.1))
                      have n1_ := ak (blk_below (g := gb112) (o := .cells #[.int .i64 a0_0, .slice A0_1 l0_1.length c0_1] 31 (0, 0)) (by exact BK112.1) hb)
                      have n2_ := ak (blk_below (g := gb113) (o := .cells #[.slice none 0 0, .slice none 0 0] 50 (0, 0)) (by exact BK113.1) hb)
                      have n3_ := ak (below_step HB.1 hb)
                      clear BK112
                      clear BK113
                      clear HB
                      have HO119 := n0_
                      have BK112 := n1_
                      have BK113 := n2_
                      have HB := n3_
                      clear n0_ n1_ n2_ n3_
                      clear hb ho8
                      refine hK.out _ _ ⟨(blk_cell BK112.1 0).trans rfl, (blk_cell BK112.1 1).trans rfl⟩ (fun hHeld => ?_)
                      clear hK K
                      refine norm_ (a' := ?_) ?_ ?_
                      rotate_left
                      · show Act.put _ (some 11) _ = _
                        simp only [Act.put, List.setIfInBounds_toArray, List.set_cons_zero, List.set_cons_succ, i64_w, i32_w]
                        rfl
                      exact norm_ (by (simp only [putAll, Act.put, List.setIfInBounds_toArray, List.set_cons_zero, List.set_cons_succ]; done)) (hJ5 (v118) _ ⟨hHeld, (by exact HO119.1), (by exact BK112.1), (by exact BK113.1), HB.1⟩)
                    skip
                    refine box_step ?hg (N := 3) ?hd (cs := #[.slice none 0 0, .slice none 0 0]) (t := 50) ?hr ?_; (case hd => rfl); (case hg => rfl); (case hr => (go_simp; done))
                    intro gb120 hg w7 hbox hb
                    have n0_ := ak (blk_below (g := gb112) (o := .cells #[.int .i64 a0_0, .slice A0_1 l0_1.length c0_1] 31 (0, 0)) (by exact BK112.1) hb)
                    have n1_ := ak (blk_below (g := gb113) (o := .cells #[.slice none 0 0, .slice none 0 0] 50 (0, 0)) (by exact BK113.1) hb)
                    have n2_ := ak (below_step HB.1 hb)
                    have n3_ := ak (hbox)
                    have n4_ := ak ((by rw [hg]; exact (below_size HB.1) : w.heap.size ≤ gb120))
                    have n5_ := ak ((by rw [hg]; exact (below_size HB.1) : w.heap.size ≤ gb120))
                    have n6_ := ak ((by rw [hg]; exact Nat.ne_of_lt (blk_lt (g := gb112) (o := .cells #[.int .i64 a0_0, .slice A0_1 l0_1.length c0_1] 31 (0, 0)) (by exact BK112.1)) : gb112 ≠ gb120))
                    have n7_ := ak ((by rw [hg]; exact Nat.ne_of_gt (blk_lt (g := gb112) (o := .cells #[.int .i64 a0_0, .slice A0_1 l0_1.length c0_1] 31 (0, 0)) (by exact BK112.1)) : gb120 ≠ gb112))
                    have n8_ := ak ((by rw [hg]; exact Nat.ne_of_lt (blk_lt (g := gb113) (o := .cells #[.slice none 0 0, .slice none 0 0] 50 (0, 0)) (by exact BK113.1)) : gb113 ≠ gb120))
                    have n9_ := ak ((by rw [hg]; exact Nat.ne_of_gt (blk_lt (g := gb113) (o := .cells #[.slice none 0 0, .slice none 0 0] 50 (0, 0)) (by exact BK113.1)) : gb120 ≠ gb113))
                    clear BK112
                    clear BK113
                    clear HB
                    have BK112 := n0_
                    have BK113 := n1_
                    have HB := n2_
                    have BK120 := n3_
                    have GW120 := n4_
                    have GE120 := n5_
                    have NB112_120 := n6_
                    have NB120_112 := n7_
                    have NB113_120 := n8_
                    have NB120_113 := n9_
                    clear n0_ n1_ n2_ n3_ n4_ n5_ n6_ n7_ n8_ n9_
                    clear hb hbox hg
                    refine hK.out _ _ ⟨(blk_cell BK112.1 0).trans rfl, (blk_cell BK112.1 1).trans rfl⟩ (fun hHeld => ?_)
                    clear hK K
                    refine norm_ (a' := ?_) ?_ ?_
                    rotate_left
                    · show Act.put _ (some 3) _ = _
                      simp only [Act.put, List.setIfInBounds_toArray, List.set_cons_zero, List.set_cons_succ, i64_w, i32_w]
                      rfl
                    exact norm_ (by (simp only [putAll, Act.put, List.setIfInBounds_toArray, List.set_cons_zero, List.set_cons_succ]; done)) (hJ7 (gb120) _ ⟨hHeld, (by exact BK112.1), (by exact BK113.1), (by exact BK120.1), GW120.1, GE120.1, NB112_120.1, NB120_112.1, NB113_120.1, NB120_113.1, HB.1⟩)
                  skip
                  rintro gb120 w8 ⟨hS_, h0_, h1_, h2_, h3_, h4_, h5_, h6_, h7_, h8_, h9_⟩
                  have n0_ : Aside0 (w8.heap[gb112]? = some (.cells #[.int .i64 a0_0, .slice A0_1 l0_1.length c0_1] 31 (0, 0))) := ⟨h0_⟩
                  have n1_ : Aside0 (w8.heap[gb113]? = some (.cells #[.slice none 0 0, .slice none 0 0] 50 (0, 0))) := ⟨h1_⟩
                  have n2_ : Aside0 (w8.heap[gb120]? = some (.cells #[.slice none 0 0, .slice none 0 0] 50 (0, 0))) := ⟨h2_⟩
                  have n3_ : Aside0 (w.heap.size ≤ gb120) := ⟨h3_⟩
                  have n4_ : Aside0 (w.heap.size ≤ gb120) := ⟨h4_⟩
                  have n5_ : Aside0 (gb112 ≠ gb120) := ⟨h5_⟩
                  have n6_ : Aside0 (gb120 ≠ gb112) := ⟨h6_⟩
                  have n7_ : Aside0 (gb113 ≠ gb120) := ⟨h7_⟩
                  have n8_ : Aside0 (gb120 ≠ gb113) := ⟨h8_⟩
                  have n9_ : Aside0 (Below w.heap.size w w8) := ⟨h9_⟩
                  clear BK112
                  clear BK113
                  clear HB
                  clear h0_ h1_ h2_ h3_ h4_ h5_ h6_ h7_ h8_ h9_
                  have BK112 := n0_
                  have BK113 := n1_
                  have BK120 := n2_
                  have GW120 := n3_
                  have GE120 := n4_
                  have NB112_120 := n5_
                  have NB120_112 := n6_
                  have NB113_120 := n7_
                  have NB120_113 := n8_
                  have HB := n9_
                  clear n0_ n1_ n2_ n3_ n4_ n5_ n6_ n7_ n8_ n9_
                  have hHeld : w8.cell? ⟨gb112, 0, none⟩ = some (.int .i64 a0_0) ∧ w8.cell? ⟨gb112, 1, none⟩ = some (.slice A0_1 l0_1.length c0_1) := hS_
                  refine norm_ (a' := ?_) ?_ ?_
                  rotate_left
                  · simp only [putAll, Act.put, List.setIfInBounds_toArray, List.set_cons_zero, List.set_cons_succ]
                    rfl
                  refine two_ (i := 2) (j := 5) (Ni := some 8) (Nj := some 11) #[true, true, true, true, true, false, false, true, false] #[true, true, false, true, true, true, false, true, false] rfl rfl rfl rfl (two_of HT_.1 (by kernel_rfl)) (by decide) (by decide) (fun K hK => ?_) (fun K hK => ?_)
                  · skip
                    refine Kd.S_make_step (Kd.slice 3 (Kd.int .i64)) _ 27 (by rfl) (N := 8) rfl 48 _ _ rfl a0_0 rfl rfl Try.underlying48 (.slice none 0 0) 24 infoL27 rfl (by decide) (by omega) [] (ok := fun _ => True) (okp := fun _ => True) ⟨_, rfl, Kd.R_nil _ _ _ _ _⟩ (fun _ hk => hk) trivial (od_) (Nat.le_trans (Nat.mul_le_mul_right _ (od_ : a0_0.toNat ≤ 11728124029610)) (by omega)) (Below.refl _ _) (Nat.le_refl _) ?_
                    intro v115 w9 ho10 hb hg_ hnew_
                    clear hg_ hnew_
                    rw [← Ny114.1] at ho10
                    have n0_ := ak (Kd.S_lower ho10 (below_size HB.1))
                    have n1_ := ak (blk_below (g := gb112) (o := .cells #[.int .i64 a0_0, .slice A0_1 l0_1.length c0_1] 31 (0, 0)) (by exact BK112.1) hb)
                    have n2_ := ak (blk_below (g := gb113) (o := .cells #[.slice none 0 0, .slice none 0 0] 50 (0, 0)) (by exact BK113.1) hb)
                    have n3_ := ak (blk_below (g := gb120) (o := .cells #[.slice none 0 0, .slice none 0 0] 50 (0, 0)) (by exact BK120.1) hb)
                    have n4_ := ak (below_step HB.1 hb)
                    clear BK112
                    clear BK113
                    clear BK120
                    clear HB
                    have HO116 := n0_
                    have BK112 := n1_
                    have BK113 := n2_
                    have BK120 := n3_
                    have HB := n4_
                    clear n0_ n1_ n2_ n3_ n4_
                    clear hb ho10
                    refine hK.out _ _ ⟨(blk_cell BK112.1 0).trans rfl, (blk_cell BK112.1 1).trans rfl⟩ (fun hHeld => ?_)
                    clear hK K
                    refine norm_ (a' := ?_) ?_ ?_
                    rotate_left
                    · show Act.put _ (some 8) _ = _
                      simp only [Act.put, List.setIfInBounds_toArray, List.set_cons_zero, List.set_cons_succ, i64_w, i32_w]
                      rfl
                    exact norm_ (by (simp only [putAll, Act.put, List.setIfInBounds_toArray, List.set_cons_zero, List.set_cons_succ]; done)) (hJ2_7 (v115, gb120) _ ⟨hHeld, (by exact HO116.1), (by exact BK112.1), (by exact BK113.1), (by exact BK120.1), GW120.1, GE120.1, NB112_120.1, NB120_112.1, NB113_120.1, NB120_113.1, HB.1⟩)
                  skip
                  refine Kd.S_make_step (Kd.slice 3 (Kd.int .i64)) _ 27 (by rfl) (N := 11) rfl 48 _ _ rfl a0_0 rfl rfl Try.underlying48 (.slice none 0 0) 24 infoL27 rfl (by decide) (by omega) [] (ok := fun _ => True) (okp := fun _ => True) ⟨_, rfl, Kd.R_nil _ _ _ _ _⟩ (fun _ hk => hk) trivial (od_) (Nat.le_trans (Nat.mul_le_mul_right _ (od_ : a0_0.toNat ≤ 11728124029610)) (by omega)) (Below.refl _ _) (Nat.le_refl _) ?_
                  intro v118 w9 ho10 hb hg_ hnew_
                  clear hg_ hnew_
                  rw [← Ny117.1] at ho10
                  have n0_ := ak (Kd.S_lower ho10 (below_size HB.1))
                  have n1_ := ak (blk_below (g := gb112) (o := .cells #[.int .i64 a0_0, .slice A0_1 l0_1.length c0_1] 31 (0, 0)) (by exact BK112.1) hb)
                  have n2_ := ak (blk_below (g := gb113) (o := .cells #[.slice none 0 0, .slice none 0 0] 50 (0, 0)) (by exact BK113.1) hb)
                  have n3_ := ak (blk_below (g := gb120) (o := .cells #[.slice none 0 0, .slice none 0 0] 50 (0, 0)) (by exact BK120.1) hb)
                  have n4_ := ak (below_step HB.1 hb)
                  clear BK112
                  clear BK113
                  clear BK120
                  clear HB
                  have HO119 := n0_
                  have BK112 := n1_
                  have BK113 := n2_
                  have BK120 := n3_
                  have HB := n4_
                  clear n0_ n1_ n2_ n3_ n4_
                  clear hb ho10
                  refine hK.out _ _ ⟨(blk_cell BK112.1 0).trans rfl, (blk_cell BK112.1 1).trans rfl⟩ (fun hHeld => ?_)
                  clear hK K
                  refine norm_ (a' := ?_) ?_ ?_
                  rotate_left
                  · show Act.put _ (some 11) _ = _
                    simp only [Act.put, List.setIfInBounds_toArray, List.set_cons_zero, List.set_cons_succ, i64_w, i32_w]
                    rfl
                  exact norm_ (by (simp only [putAll, Act.put, List.setIfInBounds_toArray, List.set_cons_zero, List.set_cons_succ]; done)) (hJ5_7 (v118, gb120) _ ⟨hHeld, (by exact HO119.1), (by exact BK112.1), (by exact BK113.1), (by exact BK120.1), GW120.1, GE120.1, NB112_120.1, NB120_112.1, NB113_120.1, NB120_113.1, HB.1⟩)
                skip
                rintro v118 w9 ⟨hS_, h0_, h1_, h2_, h3_⟩
                have n0_ : Aside0 (Kd.S (Kd.slice 3 (Kd.int .i64)) 27 w9 w.heap.size (fun _ => True) v118 y117) := ⟨h0_⟩
                have n1_ : Aside0 (w9.heap[gb112]? = some (.cells #[.int .i64 a0_0, .slice A0_1 l0_1.length c0_1] 31 (0, 0))) := ⟨h1_⟩
                have n2_ : Aside0 (w9.heap[gb113]? = some (.cells #[.slice none 0 0, .slice none 0 0] 50 (0, 0))) := ⟨h2_⟩
                have n3_ : Aside0 (Below w.heap.size w w9) := ⟨h3_⟩
                clear BK112
                clear BK113
                clear HB
                clear h0_ h1_ h2_ h3_
                have HO119 := n0_
                have BK112 := n1_
                have BK113 := n2_
                have HB := n3_
                clear n0_ n1_ n2_ n3_
                have hHeld : w9.cell? ⟨gb112, 0, none⟩ = some (.int .i64 a0_0) ∧ w9.cell? ⟨gb112, 1, none⟩ = some (.slice A0_1 l0_1.length c0_1) := hS_
                refine norm_ (a' := ?_) ?_ ?_
                rotate_left
                · simp only [putAll, Act.put, List.setIfInBounds_toArray, List.set_cons_zero, List.set_cons_succ]
                  rfl
                refine two_ (i := 2) (j := 7) (Ni := some 8) (Nj := some 3) #[true, true, true, true, true, true, false, false, false] #[true, true, false, true, true, true, false, true, false] rfl rfl rfl rfl (two_of HT_.1 (by kernel_rfl)) (by decide) (by decide) (fun K hK => ?_) (fun K hK => ?_)
                · skip
                  refine Kd.S_make_step (Kd.slice 3 (Kd.int .i64)) _ 27 (by rfl) (N := 8) rfl 48 _ _ rfl a0_0 rfl rfl Try.underlying48 (.slice none 0 0) 24 infoL27 rfl (by decide) (by omega) [] (ok := fun _ => True) (okp := fun _ => True) ⟨_, rfl, Kd.R_nil _ _ _ _ _⟩ (fun _ hk => hk) trivial (od_) (Nat.le_trans (Nat.mul_le_mul_right _ (od_ : a0_0.toNat ≤ 11728124029610)) (by omega)) (Below.refl _ _) (Nat.le_refl _) ?_
                  intro v115 w10 ho11 hb hg_ hnew_
                  clear hg_ hnew_
                  rw [← Ny114.1] at ho11
                  obtain ⟨PP_, he_, hy_⟩ := S_twoA (by exact HO119.1) ho11 hb
                  have n0_ := ak he_
                  have n1_ := ak (Kd.S_lower hy_ (below_size HB.1))
                  have n2_ := ak (blk_below (g := gb112) (o := .cells #[.int .i64 a0_0, .slice A0_1 l0_1.length c0_1] 31 (0, 0)) (by exact BK112.1) hb)
                  have n3_ := ak (blk_below (g := gb113) (o := .cells #[.slice none 0 0, .slice none 0 0] 50 (0, 0)) (by exact BK113.1) hb)
                  have n4_ := ak (below_step HB.1 hb)
                  clear HO119
                  clear BK112
                  clear BK113
                  clear HB
                  have HO119 := n0_
                  have HO116 := n1_
                  have BK112 := n2_
                  have BK113 := n3_
                  have HB := n4_
                  clear n0_ n1_ n2_ n3_ n4_
                  clear hb ho11
                  obtain ⟨Ao12, co12, eo12⟩ := Kd.S_slice HO119.1
                  subst eo12
                  obtain ⟨Ao13, co13, eo13⟩ := Kd.S_slice HO116.1
                  subst eo13
                  refine hK.out _ _ ⟨(blk_cell BK112.1 0).trans rfl, (blk_cell BK112.1 1).trans rfl⟩ (fun hHeld => ?_)
                  clear hK K
                  refine norm_ (a' := ?_) ?_ ?_
                  rotate_left
                  · show Act.put _ (some 8) _ = _
                    simp only [Act.put, List.setIfInBounds_toArray, List.set_cons_zero, List.set_cons_succ, i64_w, i32_w]
                    rfl
                  refine pure_ (i := 6) (N := some 12) (v := ?_) (a' := ?_) #[true, true, true, true, true, true, true, false, false] rfl rfl (any_of HT_.1 (by kernel_rfl)) (fun _ _ _ h => h) (Or.inl ⟨by rfl, ?_⟩) ?_ ?_
                  rotate_left
                  · intro w'
                    go_simp
                    with_reducible rfl
                  rotate_left
                  · simp only [Act.put, List.setIfInBounds_toArray, List.set_cons_zero, List.set_cons_succ, i64_w, i32_w]
                    rfl
                  exact norm_ (by (simp only [putAll, Act.put, List.setIfInBounds_toArray, List.set_cons_zero, List.set_cons_succ]; done)) (hJ2_5 (.slice Ao13 y114.length co13, .slice Ao12 y117.length co12, PP_) _ ⟨hHeld, (by exact HO116.1), (by exact HO119.1), (by exact BK112.1), (by exact BK113.1), HB.1⟩)
                skip
                refine box_step ?hg (N := 3) ?hd (cs := #[.slice none 0 0, .slice none 0 0]) (t := 50) ?hr ?_; (case hd => rfl); (case hg => rfl); (case hr => (go_simp; done))
                intro gb120 hg w10 hbox hb
                have n0_ := ak (Kd.S_below (by exact HO119.1) hb)
                have n1_ := ak (blk_below (g := gb112) (o := .cells #[.int .i64 a0_0, .slice A0_1 l0_1.length c0_1] 31 (0, 0)) (by exact BK112.1) hb)
                have n2_ := ak (blk_below (g := gb113) (o := .cells #[.slice none 0 0, .slice none 0 0] 50 (0, 0)) (by exact BK113.1) hb)
                have n3_ := ak (below_step HB.1 hb)
                have n4_ := ak (hbox)
                have n5_ := ak ((by rw [hg]; exact (below_size HB.1) : w.heap.size ≤ gb120))
                have n6_ := ak ((by rw [hg]; exact (below_size HB.1) : w.heap.size ≤ gb120))
                have n7_ := ak ((by rw [hg]; exact Nat.ne_of_lt (blk_lt (g := gb112) (o := .cells #[.int .i64 a0_0, .slice A0_1 l0_1.length c0_1] 31 (0, 0)) (by exact BK112.1)) : gb112 ≠ gb120))
                have n8_ := ak ((by rw [hg]; exact Nat.ne_of_gt (blk_lt (g := gb112) (o := .cells #[.int .i64 a0_0, .slice A0_1 l0_1.length c0_1] 31 (0, 0)) (by exact BK112.1)) : gb120 ≠ gb112))
                have n9_ := ak ((by rw [hg]; exact Nat.ne_of_lt (blk_lt (g := gb113) (o := .cells #[.slice none 0 0, .slice none 0 0] 50 (0, 0)) (by exact BK113.1)) : gb113 ≠ gb120))
                have n10_ := ak ((by rw [hg]; exact Nat.ne_of_gt (blk_lt (g := gb113) (o := .cells #[.slice none 0 0, .slice none 0 0] 50 (0, 0)) (by exact BK113.1)) : gb120 ≠ gb113))
                clear HO119
                clear BK112
                clear BK113
                clear HB
                have HO119 := n0_
                have BK112 := n1_
                have BK113 := n2_
                have HB := n3_
                have BK120 := n4_
                have GW120 := n5_
                have GE120 := n6_
                have NB112_120 := n7_
                have NB120_112 := n8_
                have NB113_120 := n9_
                have NB120_113 := n10_
                clear n0_ n1_ n2_ n3_ n4_ n5_ n6_ n7_ n8_ n9_ n10_
                clear hb hbox hg
                refine hK.out _ _ ⟨(blk_cell BK112.1 0).trans rfl, (blk_cell BK112.1 1).trans rfl⟩ (fun hHeld => ?_)
                clear hK K
                refine norm_ (a' := ?_) ?_ ?_
                rotate_left
                · show Act.put _ (some 3) _ = _
                  simp only [Act.put, List.setIfInBounds_toArray, List.set_cons_zero, List.set_cons_succ, i64_w, i32_w]
                  rfl
                exact norm_ (by (simp only [putAll, Act.put, List.setIfInBounds_toArray, List.set_cons_zero, List.set_cons_succ]; done)) (hJ5_7 (v118, gb120) _ ⟨hHeld, (by exact HO119.1), (by exact BK112.1), (by exact BK113.1), (by exact BK120.1), GW120.1, GE120.1, NB112_120.1, NB120_112.1, NB113_120.1, NB120_113.1, HB.1⟩)
              skip
              rintro v115 w9 ⟨hS_, h0_, h1_, h2_, h3_⟩
              have n0_ : Aside0 (Kd.S (Kd.slice 3 (Kd.int .i64)) 27 w9 w.heap.size (fun _ => True) v115 y114) := ⟨h0_⟩
              have n1_ : Aside0 (w9.heap[gb112]? = some (.cells #[.int .i64 a0_0, .slice A0_1 l0_1.length c0_1] 31 (0, 0))) := ⟨h1_⟩
              have n2_ : Aside0 (w9.heap[gb113]? = some (.cells #[.slice none 0 0, .slice none 0 0] 50 (0, 0))) := ⟨h2_⟩
              have n3_ : Aside0 (Below w.heap.size w w9) := ⟨h3_⟩
              clear BK112
              clear BK113
              clear HB
              clear h0_ h1_ h2_ h3_
              have HO116 := n0_
              have BK112 := n1_
              have BK113 := n2_
              have HB := n3_
              clear n0_ n1_ n2_ n3_
              have hHeld : w9.cell? ⟨gb112, 0, none⟩ = some (.int .i64 a0_0) ∧ w9.cell? ⟨gb112, 1, none⟩ = some (.slice A0_1 l0_1.length c0_1) := hS_
              refine norm_ (a' := ?_) ?_ ?_
              rotate_left
              · simp only [putAll, Act.put, List.setIfInBounds_toArray, List.set_cons_zero, List.set_cons_succ]
                rfl
              refine two_ (i := 5) (j := 7) (Ni := some 11) (Nj := some 3) #[true, true, true, true, true, true, false, false, false] #[true, true, true, true, true, false, false, true, false] rfl rfl rfl rfl (two_of HT_.1 (by kernel_rfl)) (by decide) (by decide) (fun K hK => ?_) (fun K hK => ?_)
              · skip
                refine Kd.S_make_step (Kd.slice 3 (Kd.int .i64)) _ 27 (by rfl) (N := 11) rfl 48 _ _ rfl a0_0 rfl rfl Try.underlying48 (.slice none 0 0) 24 infoL27 rfl (by decide) (by omega) [] (ok := fun _ => True) (okp := fun _ => True) ⟨_, rfl, Kd.R_nil _ _ _ _ _⟩ (fun _ hk => hk) trivial (od_) (Nat.le_trans (Nat.mul_le_mul_right _ (od_ : a0_0.toNat ≤ 11728124029610)) (by omega)) (Below.refl _ _) (Nat.le_refl _) ?_
                intro v118 w10 ho11 hb hg_ hnew_
                clear hg_ hnew_
                rw [← Ny117.1] at ho11
                obtain ⟨PP_, he_, hy_⟩ := S_twoB (by exact HO116.1) ho11 hb
                have n0_ := ak he_
                have n1_ := ak (Kd.S_lower hy_ (below_size HB.1))
                have n2_ := ak (blk_below (g := gb112) (o := .cells #[.int .i64 a0_0, .slice A0_1 l0_1.length c0_1] 31 (0, 0)) (by exact BK112.1) hb)
                have n3_ := ak (blk_below (g := gb113) (o := .cells #[.slice none 0 0, .slice none 0 0] 50 (0, 0)) (by exact BK113.1) hb)
                have n4_ := ak (below_step HB.1 hb)
                clear HO116
                clear BK112
                clear BK113
                clear HB
                have HO116 := n0_
                have HO119 := n1_
                have BK112 := n2_
                have BK113 := n3_
                have HB := n4_
                clear n0_ n1_ n2_ n3_ n4_
                clear hb ho11
                obtain ⟨Ao12, co12, eo12⟩ := Kd.S_slice HO119.1
                subst eo12
                obtain ⟨Ao13, co13, eo13⟩ := Kd.S_slice HO116.1
                subst eo13
                refine hK.out _ _ ⟨(blk_cell BK112.1 0).trans rfl, (blk_cell BK112.1 1).trans rfl⟩ (fun hHeld => ?_)
                clear hK K
                refine norm_ (a' := ?_) ?_ ?_
                rotate_left
                · show Act.put _ (some 11) _ = _
                  simp only [Act.put, List.setIfInBounds_toArray, List.set_cons_zero, List.set_cons_succ, i64_w, i32_w]
                  rfl
                refine pure_ (i := 6) (N := some 12) (v := ?_) (a' := ?_) #[true, true, true, true, true, true, true, false, false] rfl rfl (any_of HT_.1 (by kernel_rfl)) (fun _ _ _ h => h) (Or.inl ⟨by rfl, ?_⟩) ?_ ?_
                rotate_left
                · intro w'
                  go_simp
                  with_reducible rfl
                rotate_left
                · simp only [Act.put, List.setIfInBounds_toArray, List.set_cons_zero, List.set_cons_succ, i64_w, i32_w]
                  rfl
                exact norm_ (by (simp only [putAll, Act.put, List.setIfInBounds_toArray, List.set_cons_zero, List.set_cons_succ]; done)) (hJ2_5 (.slice Ao13 y114.length co13, .slice Ao12 y117.length co12, PP_) _ ⟨hHeld, (by exact HO116.1), (by exact HO119.1), (by exact BK112.1), (by exact BK113.1), HB.1⟩)
              skip
              refine box_step ?hg (N := 3) ?hd (cs := #[.slice none 0 0, .slice none 0 0]) (t := 50) ?hr ?_; (case hd => rfl); (case hg => rfl); (case hr => (go_simp; done))
              intro gb120 hg w10 hbox hb
              have n0_ := ak (Kd.S_below (by exact HO116.1) hb)
              have n1_ := ak (blk_below (g := gb112) (o := .cells #[.int .i64 a0_0, .slice A0_1 l0_1.length c0_1] 31 (0, 0)) (by exact BK112.1) hb)
              have n2_ := ak (blk_below (g := gb113) (o := .cells #[.slice none 0 0, .slice none 0 0] 50 (0, 0)) (by exact BK113.1) hb)
              have n3_ := ak (below_step HB.1 hb)
              have n4_ := ak (hbox)
              have n5_ := ak ((by rw [hg]; exact (below_size HB.1) : w.heap.size ≤ gb120))
              have n6_ := ak ((by rw [hg]; exact (below_size HB.1) : w.heap.size ≤ gb120))
              have n7_ := ak ((by rw [hg]; exact Nat.ne_of_lt (blk_lt (g := gb112) (o := .cells #[.int .i64 a0_0, .slice A0_1 l0_1.length c0_1] 31 (0, 0)) (by exact BK112.1)) : gb112 ≠ gb120))
              have n8_ := ak ((by rw [hg]; exact Nat.ne_of_gt (blk_lt (g := gb112) (o := .cells #[.int .i64 a0_0, .slice A0_1 l0_1.length c0_1] 31 (0, 0)) (by exact BK112.1)) : gb120 ≠ gb112))
              have n9_ := ak ((by rw [hg]; exact Nat.ne_of_lt (blk_lt (g := gb113) (o := .cells #[.slice none 0 0, .slice none 0 0] 50 (0, 0)) (by exact BK113.1)) : gb113 ≠ gb120))
              have n10_ := ak ((by rw [hg]; exact Nat.ne_of_gt (blk_lt (g := gb113) (o := .cells #[.slice none 0 0, .slice none 0 0] 50 (0, 0)) (by exact BK113.1)) : gb120 ≠ gb113))
              clear HO116
              clear BK112
              clear BK113
              clear HB
              have HO116 := n0_
              have BK112 := n1_
              have BK113 := n2_
              have HB := n3_
              have BK120 := n4_
              have GW120 := n5_
              have GE120 := n6_
              have NB112_120 := n7_
              have NB120_112 := n8_
              have NB113_120 := n9_
              have NB120_113 := n10_
              clear n0_ n1_ n2_ n3_ n4_ n5_ n6_ n7_ n8_ n9_ n10_
              clear hb hbox hg
              refine hK.out _ _ ⟨(blk_cell BK112.1 0).trans rfl, (blk_cell BK112.1 1).trans rfl⟩ (fun hHeld => ?_)
              clear hK K
              refine norm_ (a' := ?_) ?_ ?_
              rotate_left
              · show Act.put _ (some 3) _ = _
                simp only [Act.put, List.setIfInBounds_toArray, List.set_cons_zero, List.set_cons_succ, i64_w, i32_w]
                rfl
              exact norm_ (by (simp only [putAll, Act.put, List.setIfInBounds_toArray, List.set_cons_zero, List.set_cons_succ]; done)) (hJ2_7 (v115, gb120) _ ⟨hHeld, (by exact HO116.1), (by exact BK112.1), (by exact BK113.1), (by exact BK120.1), GW120.1, GE120.1, NB112_120.1, NB120_112.1, NB113_120.1, NB120_113.1, HB.1⟩)
            skip
            rintro ⟨v118, gb120⟩ w10 ⟨hS_, h0_, h1_, h2_, h3_, h4_, h5_, h6_, h7_, h8_, h9_, h10_⟩
            have n0_ : Aside0 (Kd.S (Kd.slice 3 (Kd.int .i64)) 27 w10 w.heap.size (fun _ => True) v118 y117) := ⟨h0_⟩
            have n1_ : Aside0 (w10.heap[gb112]? = some (.cells #[.int .i64 a0_0, .slice A0_1 l0_1.length c0_1] 31 (0, 0))) := ⟨h1_⟩
            have n2_ : Aside0 (w10.heap[gb113]? = some (.cells #[.slice none 0 0, .slice none 0 0] 50 (0, 0))) := ⟨h2_⟩
            have n3_ : Aside0 (w10.heap[gb120]? = some (.cells #[.slice none 0 0, .slice none 0 0] 50 (0, 0))) := ⟨h3_⟩
            have n4_ : Aside0 (w.heap.size ≤ gb120) := ⟨h4_⟩
            have n5_ : Aside0 (w.heap.size ≤ gb120) := ⟨h5_⟩
            have n6_ : Aside0 (gb112 ≠ gb120) := ⟨h6_⟩
            have n7_ : Aside0 (gb120 ≠ gb112) := ⟨h7_⟩
            have n8_ : Aside0 (gb113 ≠ gb120) := ⟨h8_⟩
            have n9_ : Aside0 (gb120 ≠ gb113) := ⟨h9_⟩
            have n10_ : Aside0 (Below w.heap.size w w10) := ⟨h10_⟩
            clear BK112
            clear BK113
            clear HB
            clear h0_ h1_ h2_ h3_ h4_ h5_ h6_ h7_ h8_ h9_ h10_
            have HO119 := n0_
            have BK112 := n1_
            have BK113 := n2_
            have BK120 := n3_
            have GW120 := n4_
            have GE120 := n5_
            have NB112_120 := n6_
            have NB120_112 := n7_
            have NB113_120 := n8_
            have NB120_113 := n9_
            have HB := n10_
            clear n0_ n1_ n2_ n3_ n4_ n5_ n6_ n7_ n8_ n9_ n10_
            have hHeld : w10.cell? ⟨gb112, 0, none⟩ = some (.int .i64 a0_0) ∧ w10.cell? ⟨gb112, 1, none⟩ = some (.slice A0_1 l0_1.length c0_1) := hS_
            refine norm_ (a' := ?_) ?_ ?_
            rotate_left
            · simp only [putAll, Act.put, List.setIfInBounds_toArray, List.set_cons_zero, List.set_cons_succ]
              rfl
            refine one_ (i := 2) (N := some 8) #[true, true, true, true, true, true, false, true, false] rfl rfl (one_of HT_.1 (by kernel_rfl)) (by decide) (fun K hK => ?_)
            refine Kd.S_make_step (Kd.slice 3 (Kd.int .i64)) _ 27 (by rfl) (N := 8) rfl 48 _ _ rfl a0_0 rfl rfl Try.underlying48 (.slice none 0 0) 24 infoL27 rfl (by decide) (by omega) [] (ok := fun _ => True) (okp := fun _ => True) ⟨_, rfl, Kd.R_nil _ _ _ _ _⟩ (fun _ hk => hk) trivial (od_) (Nat.le_trans (Nat.mul_le_mul_right _ (od_ : a0_0.toNat ≤ 11728124029610)) (by omega)) (Below.refl _ _) (Nat.le_refl _) ?_
            intro v115 w11 ho12 hb hg_ hnew_
            clear hg_ hnew_
            rw [← Ny114.1] at ho12
            obtain ⟨PP_, he_, hy_⟩ := S_twoA (by exact HO119.1) ho12 hb
            have n0_ := ak he_
            have n1_ := ak (Kd.S_lower hy_ (below_size HB.1))
            have n2_ := ak (blk_below (g := gb112) (o := .cells #[.int .i64 a0_0, .slice A0_1 l0_1.length c0_1] 31 (0, 0)) (by exact BK112.1) hb)
            have n3_ := ak (blk_below (g := gb113) (o := .cells #[.slice none 0 0, .slice none 0 0] 50 (0, 0)) (by exact BK113.1) hb)
            have n4_ := ak (blk_below (g := gb120) (o := .cells #[.slice none 0 0, .slice none 0 0] 50 (0, 0)) (by exact BK120.1) hb)
            have n5_ := ak (below_step HB.1 hb)
            clear HO119
            clear BK112
            clear BK113
            clear BK120
            clear HB
            have HO119 := n0_
            have HO116 := n1_
            have BK112 := n2_
            have BK113 := n3_
            have BK120 := n4_
            have HB := n5_
            clear n0_ n1_ n2_ n3_ n4_ n5_
            clear hb ho12
            obtain ⟨Ao13, co13, eo13⟩ := Kd.S_slice HO119.1
            subst eo13
            obtain ⟨Ao14, co14, eo14⟩ := Kd.S_slice HO116.1
            subst eo14
            refine hK.out _ _ ⟨(blk_cell BK112.1 0).trans rfl, (blk_cell BK112.1 1).trans rfl⟩ (fun hHeld => ?_)
            clear hK K
            refine norm_ (a' := ?_) ?_ ?_
            rotate_left
            · show Act.put _ (some 8) _ = _
              simp only [Act.put, List.setIfInBounds_toArray, List.set_cons_zero, List.set_cons_succ, i64_w, i32_w]
              rfl
            refine pure_ (i := 6) (N := some 12) (v := ?_) (a' := ?_) #[true, true, true, true, true, true, true, true, false] rfl rfl (any_of HT_.1 (by kernel_rfl)) (fun _ _ _ h => h) (Or.inl ⟨by rfl, ?_⟩) ?_ ?_
            rotate_left
            · intro w'
              go_simp
              with_reducible rfl
            rotate_left
            · simp only [Act.put, List.setIfInBounds_toArray, List.set_cons_zero, List.set_cons_succ, i64_w, i32_w]
              rfl
            exact norm_ (by (simp only [putAll, Act.put, List.setIfInBounds_toArray, List.set_cons_zero, List.set_cons_succ]; done)) (hJ2_5_7 (.slice Ao14 y114.length co14, .slice Ao13 y117.length co13, gb120, PP_) _ ⟨hHeld, (by exact HO116.1), (by exact HO119.1), (by exact BK112.1), (by exact BK113.1), (by exact BK120.1), GW120.1, GE120.1, NB112_120.1, NB120_112.1, NB113_120.1, NB120_113.1, HB.1⟩)
          skip
          rintro ⟨v115, gb120⟩ w10 ⟨hS_, h0_, h1_, h2_, h3_, h4_, h5_, h6_, h7_, h8_, h9_, h10_⟩
          have n0_ : Aside0 (Kd.S (Kd.slice 3 (Kd.int .i64)) 27 w10 w.heap.size (fun _ => True) v115 y114) := ⟨h0_⟩
          have n1_ : Aside0 (w10.heap[gb112]? = some (.cells #[.int .i64 a0_0, .slice A0_1 l0_1.length c0_1] 31 (0, 0))) := ⟨h1_⟩
          have n2_ : Aside0 (w10.heap[gb113]? = some (.cells #[.slice none 0 0, .slice none 0 0] 50 (0, 0))) := ⟨h2_⟩
          have n3_ : Aside0 (w10.heap[gb120]? = some (.cells #[.slice none 0 0, .slice none 0 0] 50 (0, 0))) := ⟨h3_⟩
          have n4_ : Aside0 (w.heap.size ≤ gb120) := ⟨h4_⟩
          have n5_ : Aside0 (w.heap.size ≤ gb120) := ⟨h5_⟩
          have n6_ : Aside0 (gb112 ≠ gb120) := ⟨h6_⟩
          have n7_ : Aside0 (gb120 ≠ gb112) := ⟨h7_⟩
          have n8_ : Aside0 (gb113 ≠ gb120) := ⟨h8_⟩
          have n9_ : Aside0 (gb120 ≠ gb113) := ⟨h9_⟩
          have n10_ : Aside0 (Below w.heap.size w w10) := ⟨h10_⟩
          clear BK112
          clear BK113
          clear HB
          clear h0_ h1_ h2_ h3_ h4_ h5_ h6_ h7_ h8_ h9_ h10_
          have HO116 := n0_
          have BK112 := n1_
          have BK113 := n2_
          have BK120 := n3_
          have GW120 := n4_
          have GE120 := n5_
          have NB112_120 := n6_
          have NB120_112 := n7_
          have NB113_120 := n8_
          have NB120_113 := n9_
          have HB := n10_
          clear n0_ n1_ n2_ n3_ n4_ n5_ n6_ n7_ n8_ n9_ n10_
          have hHeld : w10.cell? ⟨gb112, 0, none⟩ = some (.int .i64 a0_0) ∧ w10.cell? ⟨gb112, 1, none⟩ = some (.slice A0_1 l0_1.length c0_1) := hS_
          refine norm_ (a' := ?_) ?_ ?_
          rotate_left
          · simp only [putAll, Act.put, List.setIfInBounds_toArray, List.set_cons_zero, List.set_cons_succ]
            rfl
          refine one_ (i := 5) (N := some 11) #[true, true, true, true, true, true, false, true, false] rfl rfl (one_of HT_.1 (by kernel_rfl)) (by decide) (fun K hK => ?_)
          refine Kd.S_make_step (Kd.slice 3 (Kd.int .i64)) _ 27 (by rfl) (N := 11) rfl 48 _ _ rfl a0_0 rfl rfl Try.underlying48 (.slice none 0 0) 24 infoL27 rfl (by decide) (by omega) [] (ok := fun _ => True) (okp := fun _ => True) ⟨_, rfl, Kd.R_nil _ _ _ _ _⟩ (fun _ hk => hk) trivial (od_) (Nat.le_trans (Nat.mul_le_mul_right _ (od_ : a0_0.toNat ≤ 11728124029610)) (by omega)) (Below.refl _ _) (Nat.le_refl _) ?_
          intro v118 w11 ho12 hb hg_ hnew_
          clear hg_ hnew_
          rw [← Ny117.1] at ho12
          obtain ⟨PP_, he_, hy_⟩ := S_twoB (by exact HO116.1) ho12 hb
          have n0_ := ak he_
          have n1_ := ak (Kd.S_lower hy_ (below_size HB.1))
          have n2_ := ak (blk_below (g := gb112) (o := .cells #[.int .i64 a0_0, .slice A0_1 l0_1.length c0_1] 31 (0, 0)) (by exact BK112.1) hb)
          have n3_ := ak (blk_below (g := gb113) (o := .cells #[.slice none 0 0, .slice none 0 0] 50 (0, 0)) (by exact BK113.1) hb)
          have n4_ := ak (blk_below (g := gb120) (o := .cells #[.slice none 0 0, .slice none 0 0] 50 (0, 0)) (by exact BK120.1) hb)
          have n5_ := ak (below_step HB.1 hb)
          clear HO116
          clear BK112
          clear BK113
          clear BK120
          clear HB
          have HO116 := n0_
          have HO119 := n1_
          have BK112 := n2_
          have BK113 := n3_
          have BK120 := n4_
          have HB := n5_
          clear n0_ n1_ n2_ n3_ n4_ n5_
          clear hb ho12
          obtain ⟨Ao13, co13, eo13⟩ := Kd.S_slice HO119.1
          subst eo13
          obtain ⟨Ao14, co14, eo14⟩ := Kd.S_slice HO116.1
          subst eo14
          refine hK.out _ _ ⟨(blk_cell BK112.1 0).trans rfl, (blk_cell BK112.1 1).trans rfl⟩ (fun hHeld => ?_)
          clear hK K
          refine norm_ (a' := ?_) ?_ ?_
          rotate_left
          · show Act.put _ (some 11) _ = _
            simp only [Act.put, List.setIfInBounds_toArray, List.set_cons_zero, List.set_cons_succ, i64_w, i32_w]
            rfl
          refine pure_ (i := 6) (N := some 12) (v := ?_) (a' := ?_) #[true, true, true, true, true, true, true, true, false] rfl rfl (any_of HT_.1 (by kernel_rfl)) (fun _ _ _ h => h) (Or.inl ⟨by rfl, ?_⟩) ?_ ?_
          rotate_left
          · intro w'
            go_simp
            with_reducible rfl
          rotate_left
          · simp only [Act.put, List.setIfInBounds_toArray, List.set_cons_zero, List.set_cons_succ, i64_w, i32_w]
            rfl
          exact norm_ (by (simp only [putAll, Act.put, List.setIfInBounds_toArray, List.set_cons_zero, List.set_cons_succ]; done)) (hJ2_5_7 (.slice Ao14 y114.length co14, .slice Ao13 y117.length co13, gb120, PP_) _ ⟨hHeld, (by exact HO116.1), (by exact HO119.1), (by exact BK112.1), (by exact BK113.1), (by exact BK120.1), GW120.1, GE120.1, NB112_120.1, NB120_112.1, NB113_120.1, NB120_113.1, HB.1⟩)
        skip
        rintro ⟨v115, v118, PP_⟩ w13 ⟨hS_, h0_, h1_, h2_, h3_, h4_⟩
        have n0_ : Aside0 (Kd.S (Kd.slice 3 (Kd.int .i64)) 27 w13 w.heap.size (fun k_ => PP_ k_) v115 y114) := ⟨h0_⟩
        have n1_ : Aside0 (Kd.S (Kd.slice 3 (Kd.int .i64)) 27 w13 w.heap.size (fun k_ => ¬ PP_ k_) v118 y117) := ⟨h1_⟩
        have n2_ : Aside0 (w13.heap[gb112]? = some (.cells #[.int .i64 a0_0, .slice A0_1 l0_1.length c0_1] 31 (0, 0))) := ⟨h2_⟩
        have n3_ : Aside0 (w13.heap[gb113]? = some (.cells #[.slice none 0 0, .slice none 0 0] 50 (0, 0))) := ⟨h3_⟩
        have n4_ : Aside0 (Below w.heap.size w w13) := ⟨h4_⟩
        clear BK112
        clear BK113
        clear HB
        clear h0_ h1_ h2_ h3_ h4_
        have HO116 := n0_
        have HO119 := n1_
        have BK112 := n2_
        have BK113 := n3_
        have HB := n4_
        clear n0_ n1_ n2_ n3_ n4_
        have hHeld : w13.cell? ⟨gb112, 0, none⟩ = some (.int .i64 a0_0) ∧ w13.cell? ⟨gb112, 1, none⟩ = some (.slice A0_1 l0_1.length c0_1) := hS_
        obtain ⟨Ao14, co14, eo14⟩ := Kd.S_slice HO119.1
        subst eo14
        obtain ⟨Ao15, co15, eo15⟩ := Kd.S_slice HO116.1
        subst eo15
        refine norm_ (a' := ?_) ?_ ?_
        rotate_left
        · simp only [putAll, Act.put, List.setIfInBounds_toArray, List.set_cons_zero, List.set_cons_succ]
          rfl
        refine one_ (i := 7) (N := some 3) #[true, true, true, true, true, true, true, true, false] rfl rfl (one_of HT_.1 (by kernel_rfl)) (by decide) (fun K hK => ?_)
        refine box_step ?hg (N := 3) ?hd (cs := #[.slice none 0 0, .slice none 0 0]) (t := 50) ?hr ?_; (case hd => rfl); (case hg => rfl); (case hr => (go_simp; done))
        intro gb120 hg w16 hbox hb
        have n0_ := ak (Kd.S_below (by exact HO116.1) hb)
        have n1_ := ak (Kd.S_below (by exact HO119.1) hb)
        have n2_ := ak (blk_below (g := gb112) (o := .cells #[.int .i64 a0_0, .slice A0_1 l0_1.length c0_1] 31 (0, 0)) (by exact BK112.1) hb)
        have n3_ := ak (blk_below (g := gb113) (o := .cells #[.slice none 0 0, .slice none 0 0] 50 (0, 0)) (by exact BK113.1) hb)
        have n4_ := ak (below_step HB.1 hb)
        have n5_ := ak (hbox)
        have n6_ := ak ((by rw [hg]; exact (below_size HB.1) : w.heap.size ≤ gb120))
        have n7_ := ak ((by rw [hg]; exact (below_size HB.1) : w.heap.size ≤ gb120))
        have n8_ := ak ((by rw [hg]; exact Nat.ne_of_lt (blk_lt (g := gb112) (o := .cells #[.int .i64 a0_0, .slice A0_1 l0_1.length c0_1] 31 (0, 0)) (by exact BK112.1)) : gb112 ≠ gb120))
        have n9_ := ak ((by rw [hg]; exact Nat.ne_of_gt (blk_lt (g := gb112) (o := .cells #[.int .i64 a0_0, .slice A0_1 l0_1.length c0_1] 31 (0, 0)) (by exact BK112.1)) : gb120 ≠ gb112))
        have n10_ := ak ((by rw [hg]; exact Nat.ne_of_lt (blk_lt (g := gb113) (o := .cells #[.slice none 0 0, .slice none 0 0] 50 (0, 0)) (by exact BK113.1)) : gb113 ≠ gb120))
        have n11_ := ak ((by rw [hg]; exact Nat.ne_of_gt (blk_lt (g := gb113) (o := .cells #[.slice none 0 0, .slice none 0 0] 50 (0, 0)) (by exact BK113.1)) : gb120 ≠ gb113))
        clear HO116
        clear HO119
        clear BK112
        clear BK113
        clear HB
        have HO116 := n0_
        have HO119 := n1_
        have BK112 := n2_
        have BK113 := n3_
        have HB := n4_
        have BK120 := n5_
        have GW120 := n6_
        have GE120 := n7_
        have NB112_120 := n8_
        have NB120_112 := n9_
        have NB113_120 := n10_
        have NB120_113 := n11_
        clear n0_ n1_ n2_ n3_ n4_ n5_ n6_ n7_ n8_ n9_ n10_ n11_
        clear hb hbox hg
        refine hK.out _ _ ⟨(blk_cell BK112.1 0).trans rfl, (blk_cell BK112.1 1).trans rfl⟩ (fun hHeld => ?_)
        clear hK K
        refine norm_ (a' := ?_) ?_ ?_
        rotate_left
        · show Act.put _ (some 3) _ = _
          simp only [Act.put, List.setIfInBounds_toArray, List.set_cons_zero, List.set_cons_succ, i64_w, i32_w]
          rfl
        exact norm_ (by (simp only [putAll, Act.put, List.setIfInBounds_toArray, List.set_cons_zero, List.set_cons_succ]; done)) (hJ2_5_7 (.slice Ao15 y114.length co15, .slice Ao14 y117.length co14, gb120, PP_) _ ⟨hHeld, (by exact HO116.1), (by exact HO119.1), (by exact BK112.1), (by exact BK113.1), (by exact BK120.1), GW120.1, GE120.1, NB112_120.1, NB120_112.1, NB113_120.1, NB120_113.1, HB.1⟩)
      rintro ⟨v115, v118, gb120, PP_⟩ w14 ⟨hS_, h0_, h1_, h2_, h3_, h4_, h5_, h6_, h7_, h8_, h9_, h10_, h11_⟩
      have n0_ : Aside0 (Kd.S (Kd.slice 3 (Kd.int .i64)) 27 w14 w.heap.size (fun k_ => PP_ k_) v115 y114) := ⟨h0_⟩
      have n1_ : Aside0 (Kd.S (Kd.slice 3 (Kd.int .i64)) 27 w14 w.heap.size (fun k_ => ¬ PP_ k_) v118 y117) := ⟨h1_⟩
      have n2_ : Aside0 (w14.heap[gb112]? = some (.cells #[.int .i64 a0_0, .slice A0_1 l0_1.length c0_1] 31 (0, 0))) := ⟨h2_⟩
      have n3_ : Aside0 (w14.heap[gb113]? = some (.cells #[.slice none 0 0, .slice none 0 0] 50 (0, 0))) := ⟨h3_⟩
      have n4_ : Aside0 (w14.heap[gb120]? = some (.cells #[.slice none 0 0, .slice none 0 0] 50 (0, 0))) := ⟨h4_⟩
      have n5_ : Aside0 (w.heap.size ≤ gb120) := ⟨h5_⟩
      have n6_ : Aside0 (w.heap.size ≤ gb120) := ⟨h6_⟩
      have n7_ : Aside0 (gb112 ≠ gb120) := ⟨h7_⟩
      have n8_ : Aside0 (gb120 ≠ gb112) := ⟨h8_⟩
      have n9_ : Aside0 (gb113 ≠ gb120) := ⟨h9_⟩
      have n10_ : Aside0 (gb120 ≠ gb113) := ⟨h10_⟩
      have n11_ : Aside0 (Below w.heap.size w w14) := ⟨h11_⟩
      clear BK112
      clear BK113
      clear HB
      clear h0_ h1_ h2_ h3_ h4_ h5_ h6_ h7_ h8_ h9_ h10_ h11_
      have HO116 := n0_
      have HO119 := n1_
      have BK112 := n2_
      have BK113 := n3_
      have BK120 := n4_
      have GW120 := n5_
      have GE120 := n6_
      have NB112_120 := n7_
      have NB120_112 := n8_
      have NB113_120 := n9_
      have NB120_113 := n10_
      have HB := n11_
      clear n0_ n1_ n2_ n3_ n4_ n5_ n6_ n7_ n8_ n9_ n10_ n11_
      have hHeld : w14.cell? ⟨gb112, 0, none⟩ = some (.int .i64 a0_0) ∧ w14.cell? ⟨gb112, 1, none⟩ = some (.slice A0_1 l0_1.length c0_1) := hS_
      obtain ⟨Ao15, co15, eo15⟩ := Kd.S_slice HO119.1
      subst eo15
      obtain ⟨Ao16, co16, eo16⟩ := Kd.S_slice HO116.1
      subst eo16
      refine norm_ (a' := ?_) ?_ ?_
      rotate_left
      · simp only [putAll, Act.put, List.setIfInBounds_toArray, List.set_cons_zero, List.set_cons_succ]
        rfl
      refine one_ (i := 8) (N := none) #[true, true, true, true, true, true, true, true, true] rfl rfl (one_of HT_.1 (by kernel_rfl)) (by decide) (fun K hK => ?_)
      have hs17 : w14.cell? ⟨gb120, 0, none⟩ = some (.slice none 0 0) := (blk_cell BK120.1 0).trans rfl
      have hfs17 := blk_frozen BK120.1 0
      have hns17_0 := NB112_120.1
      have hns17_1 := NB113_120.1
      have hms17_0 := NB120_112.1
      have hms17_1 := NB120_113.1
      have hs18 : w14.cell? ⟨gb120, 1, none⟩ = some (.slice none 0 0) := (blk_cell BK120.1 1).trans rfl
      have hfs18 := blk_frozen BK120.1 1
      have hns18_0 := NB112_120.1
      have hns18_1 := NB113_120.1
      have hms18_0 := NB120_112.1
      have hms18_1 := NB120_113.1
      refine skip_ (w1 := ?_) (by rfl) rfl ?_ ?_
      rotate_left
      · go_simp
        rfl
      refine hK.out _ _ ⟨((cell_far (p := ⟨gb120, _, none⟩) NB112_120.1 _).trans (((cell_far (p := ⟨gb120, _, none⟩) NB112_120.1 _).trans (hHeld.1)))), ((cell_far (p := ⟨gb120, _, none⟩) NB112_120.1 _).trans (((cell_far (p := ⟨gb120, _, none⟩) NB112_120.1 _).trans (hHeld.2))))⟩ (fun hHeld => ?_)
      clear hK K
      refine done_ (done_of HT_.1 (by kernel_rfl)) ?_
      have hnb19 := NB112_113.1
      have hnc19 := NB113_112.1
      have hnb20 := NB112_120.1
      have hnc20 := NB120_112.1
      have hcz21_0 : w14.cell? ⟨gb112, 0, none⟩ = some (.int .i64 a0_0) := (blk_cell BK112.1 0).trans rfl
      have hcz21_1 : w14.cell? ⟨gb112, 1, none⟩ = some (.slice A0_1 l0_1.length c0_1) := (blk_cell BK112.1 1).trans rfl
      have hfz21_0 := blk_frozen BK112.1 0
      have hfz21_1 := blk_frozen BK112.1 1
      try go_wp2
      go_loopg [16] k (fun kq v16 w' => ∃ (x16_1 : Int) (x121000_1 : List (List Int)) (x121001_1 : List (List Int)) (u121000 : Value) (u121001 : Value) (PP_ : Nat → Prop), v16 = .int .i64 x16_1 ∧ Aside0 (precedence_listsOf.l0 kq l0_1 (l0_1.length : Int) x16_1 x121000_1 x121001_1 = some (r1, r2)) ∧ Aside0 (kq ≤ k) ∧ Aside0 (Kd.S (Kd.slice 3 (Kd.int .i64)) 27 w' w.heap.size (fun k_ => PP_ k_) u121000 x121000_1) ∧ Aside0 (Kd.S (Kd.slice 3 (Kd.int .i64)) 27 w' w.heap.size (fun k_ => ¬ PP_ k_) u121001 x121001_1) ∧ Aside0 (w'.heap[gb112]? = some (.cells #[.int .i64 a0_0, (.slice A0_1 l0_1.length c0_1)] 31 (0, 0))) ∧ Aside0 (w'.heap[gb113]? = some (.cells #[(.slice none 0 0), (.slice none 0 0)] 50 (0, 0))) ∧ Aside0 (w'.heap[gb120]? = some (.cells #[u121000, u121001] 50 (0, 0))) ∧ Aside0 (Below w.heap.size w w'))
      case atStart => exact ⟨(0), (y114), (y117), (.slice Ao16 y114.length co16), (.slice Ao15 y117.length co15), PP_, (by rfl), H', ⟨Nat.le_refl _⟩, ⟨by exact Kd.S_mono (Kd.S_far (p := ⟨gb120, 1, none⟩) (Kd.S_far (p := ⟨gb120, 0, none⟩) (Kd.S_types HO116.1 BK120.1 (by decide)) (fun _ hk => hk.2) (.slice Ao16 y114.length co16)) (fun _ hk => hk.2) (.slice Ao15 y117.length co15)) (fun _ hk => hk.1)⟩, ⟨by exact Kd.S_mono (Kd.S_far (p := ⟨gb120, 1, none⟩) (Kd.S_far (p := ⟨gb120, 0, none⟩) (Kd.S_types HO119.1 BK120.1 (by decide)) (fun _ hk => hk.2) (.slice Ao16 y114.length co16)) (fun _ hk => hk.2) (.slice Ao15 y117.length co15)) (fun _ hk => hk.1)⟩, ⟨by refine blk_far ?_ NB112_120.1 _; refine blk_far ?_ NB112_120.1 _; exact BK112.1⟩, ⟨by refine blk_far ?_ NB113_120.1 _; refine blk_far ?_ NB113_120.1 _; exact BK113.1⟩, ⟨by refine blk_put (cs := #[.slice Ao16 y114.length co16, .slice none 0 0]) ?_ 1 _ rfl; refine blk_put (cs := #[.slice none 0 0, .slice none 0 0]) ?_ 0 _ rfl; exact BK120.1⟩, ⟨by repeat (with_reducible first | exact HB.1 | refine below_set ?_ GE120.1)⟩⟩
      clear H'
      try clear hcz21_0
      try clear hcz21_1
      try clear hfz21_0
      try clear hfz21_1
      obtain ⟨x16_1, x121000_1, x121001_1, u121000, u121001, PP_, rfl, HA, HK1, HO_121000, HO_121001, BK112, BK113, BK120, HB⟩ := hrel
      cases gk with
      | zero => exact absurd HA.1 (by simp [precedence_listsOf.l0])
      | succ k1 =>
        have H := HA.1
        clear HA
        simp only [precedence_listsOf.l0] at H
        by_cases c22 : x16_1 < (l0_1.length : Int)
        · rw [if_pos c22] at H
          have c22b0 : decide (x16_1 < (l0_1.length : Int)) = true := decide_eq_true c22
          clear c22
          by_cases c23 : 0 ≤ x16_1
          · rw [if_pos c23] at H
            have c23b0 : decide (0 ≤ x16_1) = true := decide_eq_true c23
            clear c23
            by_cases c24 : x16_1 < (l0_1.length : Int)
            · rw [if_pos c24] at H
              have c24b0 : decide (x16_1 < (l0_1.length : Int)) = true := decide_eq_true c24
              clear c24
              by_cases c25 : 0 ≤ ((rd_T47 l0_1 x16_1).f0)
              · rw [if_pos c25] at H
                have c25b0 : decide (0 ≤ ((rd_T47 l0_1 x16_1).f0)) = true := decide_eq_true c25
                clear c25
                by_cases c26 : ((rd_T47 l0_1 x16_1).f0) < (x121000_1.length : Int)
                · rw [if_pos c26] at H
                  have c26b0 : decide (((rd_T47 l0_1 x16_1).f0) < (x121000_1.length : Int)) = true := decide_eq_true c26
                  clear c26
                  by_cases c27 : (rd_L2 x121000_1 ((rd_T47 l0_1 x16_1).f0)).length < 17592186044416
                  · rw [if_pos c27] at H
                    have LMc27 := ak c27
                    clear c27
                    obtain ⟨y124, hy124⟩ : ∃ y_ : List Int, y_ = ((rd_L2 x121000_1 ((rd_T47 l0_1 x16_1).f0)) ++ [(rd_T47 l0_1 x16_1).f1]) := ⟨_, rfl⟩
                    replace H : (if 0 ≤ ((rd_T47 l0_1 x16_1).f1) then (if ((rd_T47 l0_1 x16_1).f1) < (x121001_1.length : Int) then (if (rd_L2 x121001_1 ((rd_T47 l0_1 x16_1).f1)).length < 17592186044416 then (precedence_listsOf.l0 k1 l0_1 (l0_1.length : Int) (wrap64 (x16_1 + 1)) (x121000_1.set (((rd_T47 l0_1 x16_1).f0) : Int).toNat y124) (x121001_1.set (((rd_T47 l0_1 x16_1).f1) : Int).toNat ((rd_L2 x121001_1 ((rd_T47 l0_1 x16_1).f1)) ++ [(rd_T47 l0_1 x16_1).f0]))) else (none)) else (none)) else (none)) = some (r1, r2) := by (rw [hy124]; with_reducible exact H)
                    have Ny124 := ak hy124
                    clear hy124
                    obtain ⟨y127, hy127⟩ : ∃ y_ : List (List Int), y_ = (x121000_1.set (((rd_T47 l0_1 x16_1).f0) : Int).toNat y124) := ⟨_, rfl⟩
                    replace H : (if 0 ≤ ((rd_T47 l0_1 x16_1).f1) then (if ((rd_T47 l0_1 x16_1).f1) < (x121001_1.length : Int) then (if (rd_L2 x121001_1 ((rd_T47 l0_1 x16_1).f1)).length < 17592186044416 then (precedence_listsOf.l0 k1 l0_1 (l0_1.length : Int) (wrap64 (x16_1 + 1)) y127 (x121001_1.set (((rd_T47 l0_1 x16_1).f1) : Int).toNat ((rd_L2 x121001_1 ((rd_T47 l0_1 x16_1).f1)) ++ [(rd_T47 l0_1 x16_1).f0]))) else (none)) else (none)) else (none)) = some (r1, r2) := by (rw [hy127]; with_reducible exact H)
                    have Ny127 := ak hy127
                    clear hy127
                    by_cases c29 : 0 ≤ ((rd_T47 l0_1 x16_1).f1)
                    · rw [if_pos c29] at H
                      have c29b0 : decide (0 ≤ ((rd_T47 l0_1 x16_1).f1)) = true := decide_eq_true c29
                      clear c29
                      by_cases c30 : ((rd_T47 l0_1 x16_1).f1) < (x121001_1.length : Int)
                      · rw [if_pos c30] at H
                        have c30b0 : decide (((rd_T47 l0_1 x16_1).f1) < (x121001_1.length : Int)) = true := decide_eq_true c30
                        clear c30
                        by_cases c31 : (rd_L2 x121001_1 ((rd_T47 l0_1 x16_1).f1)).length < 17592186044416
                        · rw [if_pos c31] at H
                          have LMc31 := ak c31
                          clear c31
                          obtain ⟨y129, hy129⟩ : ∃ y_ : List Int, y_ = ((rd_L2 x121001_1 ((rd_T47 l0_1 x16_1).f1)) ++ [(rd_T47 l0_1 x16_1).f0]) := ⟨_, rfl⟩
                          replace H : (precedence_listsOf.l0 k1 l0_1 (l0_1.length : Int) (wrap64 (x16_1 + 1)) y127 (x121001_1.set (((rd_T47 l0_1 x16_1).f1) : Int).toNat y129)) = some (r1, r2) := by (rw [hy129]; with_reducible exact H)
                          have Ny129 := ak hy129
                          clear hy129
                          obtain ⟨y132, hy132⟩ : ∃ y_ : List (List Int), y_ = (x121001_1.set (((rd_T47 l0_1 x16_1).f1) : Int).toNat y129) := ⟨_, rfl⟩
                          replace H : (precedence_listsOf.l0 k1 l0_1 (l0_1.length : Int) (wrap64 (x16_1 + 1)) y127 y132) = some (r1, r2) := by (rw [hy132]; with_reducible exact H)
                          have Ny132 := ak hy132
                          clear hy132
                          have H' := ak H
                          clear H
                          have p121 : 0 ≤ (x16_1 : Int) := od_
                          have q121 : x16_1 < (l0_1.length : Int) := od_
                          obtain ⟨ad121, e121, hx121_0, hx121_1⟩ := at_T47 HR0_1.1 x16_1 p121 q121
                          cases e121
                          replace hx121_0 := (hc_ HB hx121_0).trans hx121_0
                          replace hx121_1 := (hc_ HB hx121_1).trans hx121_1
                          replace p121 := eq_true p121
                          replace q121 := eq_true q121
                          try go_wp2_with (first | ((with_reducible refine gate_dst (N := 5) rfl ?_); refine box_event ?hg (N := 5) ?hd (cs := #[.int .i64 0, .int .i64 0]) (t := 47) ?hr ?_; (case hd => rfl); (case hg => rfl); (case hr => (go_simp; done)); intro gb122 hg w33 hbox hb; have n0_ := ak (Kd.S_below (by exact HO_121000.1) hb); have n1_ := ak (Kd.S_below (by exact HO_121001.1) hb); have n2_ := ak (blk_below (g := gb112) (o := .cells #[.int .i64 a0_0, .slice (some ad121) l0_1.length c0_1] 31 (0, 0)) (by exact BK112.1) hb); have n3_ := ak (blk_below (g := gb113) (o := .cells #[.slice none 0 0, .slice none 0 0] 50 (0, 0)) (by exact BK113.1) hb); have n4_ := ak (blk_below (g := gb120) (o := .cells #[u121000, u121001] 50 (0, 0)) (by exact BK120.1) hb); have n5_ := ak (below_step HB.1 hb); have n6_ := ak (hbox); have n7_ := ak ((by rw [hg]; exact (below_size HB.1) : w.heap.size ≤ gb122)); have n8_ := ak ((by rw [hg]; exact (below_size HB.1) : w.heap.size ≤ gb122)); have n9_ := ak ((by rw [hg]; exact Nat.ne_of_lt (blk_lt (g := gb112) (o := .cells #[.int .i64 a0_0, .slice (some ad121) l0_1.length c0_1] 31 (0, 0)) (by exact BK112.1)) : gb112 ≠ gb122)); have n10_ := ak ((by rw [hg]; exact Nat.ne_of_gt (blk_lt (g := gb112) (o := .cells #[.int .i64 a0_0, .slice (some ad121) l0_1.length c0_1] 31 (0, 0)) (by exact BK112.1)) : gb122 ≠ gb112)); have n11_ := ak ((by rw [hg]; exact Nat.ne_of_lt (blk_lt (g := gb113) (o := .cells #[.slice none 0 0, .slice none 0 0] 50 (0, 0)) (by exact BK113.1)) : gb113 ≠ gb122)); have n12_ := ak ((by rw [hg]; exact Nat.ne_of_gt (blk_lt (g := gb113) (o := .cells #[.slice none 0 0, .slice none 0 0] 50 (0, 0)) (by exact BK113.1)) : gb122 ≠ gb113)); have n13_ := ak ((by rw [hg]; exact Nat.ne_of_lt (blk_lt (g := gb120) (o := .cells #[u121000, u121001] 50 (0, 0)) (by exact BK120.1)) : gb120 ≠ gb122)); have n14_ := ak ((by rw [hg]; exact Nat.ne_of_gt (blk_lt (g := gb120) (o := .cells #[u121000, u121001] 50 (0, 0)) (by exact BK120.1)) : gb122 ≠ gb120)); clear HO_121000; clear HO_121001; clear BK112; clear BK113; clear BK120; clear HB; have HO_121000 := n0_; have HO_121001 := n1_; have BK112 := n2_; have BK113 := n3_; have BK120 := n4_; have HB := n5_; have BK122 := n6_; have GW122 := n7_; have GE122 := n8_; have NB112_122 := n9_; have NB122_112 := n10_; have NB113_122 := n11_; have NB122_113 := n12_; have NB120_122 := n13_; have NB122_120 := n14_; clear n0_ n1_ n2_ n3_ n4_ n5_ n6_ n7_ n8_ n9_ n10_ n11_ n12_ n13_ n14_; clear hb hbox hg; have hnb34 := NB122_112.1; have hnc34 := NB112_122.1; have hnb35 := NB122_113.1; have hnc35 := NB113_122.1; have hnb36 := NB122_120.1; have hnc36 := NB120_122.1; have hcz37_0 : w33.cell? ⟨gb122, 0, none⟩ = some (.int .i64 0) := (blk_cell BK122.1 0).trans rfl; have hcz37_1 : w33.cell? ⟨gb122, 1, none⟩ = some (.int .i64 0) := (blk_cell BK122.1 1).trans rfl; have hfz37_0 := blk_frozen BK122.1 0; have hfz37_1 := blk_frozen BK122.1 1))
                          have n0_ : Aside0 (Kd.S (Kd.slice 3 (Kd.int .i64)) 27 ((w33.setCell ⟨gb122, 0, none⟩ (.int .i64 ((rd_T47 l0_1 x16_1).f0))).setCell ⟨gb122, 1, none⟩ (.int .i64 ((rd_T47 l0_1 x16_1).f1))) w.heap.size (fun k_ => PP_ k_) u121000 x121000_1) := ⟨by exact Kd.S_mono (Kd.S_far (p := ⟨gb122, 1, none⟩) (Kd.S_far (p := ⟨gb122, 0, none⟩) (Kd.S_types HO_121000.1 BK122.1 (by decide)) (fun _ hk => hk.2) (.int .i64 ((rd_T47 l0_1 x16_1).f0))) (fun _ hk => hk.2) (.int .i64 ((rd_T47 l0_1 x16_1).f1))) (fun _ hk => hk.1)⟩
                          have n1_ : Aside0 (Kd.S (Kd.slice 3 (Kd.int .i64)) 27 ((w33.setCell ⟨gb122, 0, none⟩ (.int .i64 ((rd_T47 l0_1 x16_1).f0))).setCell ⟨gb122, 1, none⟩ (.int .i64 ((rd_T47 l0_1 x16_1).f1))) w.heap.size (fun k_ => ¬ PP_ k_) u121001 x121001_1) := ⟨by exact Kd.S_mono (Kd.S_far (p := ⟨gb122, 1, none⟩) (Kd.S_far (p := ⟨gb122, 0, none⟩) (Kd.S_types HO_121001.1 BK122.1 (by decide)) (fun _ hk => hk.2) (.int .i64 ((rd_T47 l0_1 x16_1).f0))) (fun _ hk => hk.2) (.int .i64 ((rd_T47 l0_1 x16_1).f1))) (fun _ hk => hk.1)⟩
                          have n2_ : Aside0 (((w33.setCell ⟨gb122, 0, none⟩ (.int .i64 ((rd_T47 l0_1 x16_1).f0))).setCell ⟨gb122, 1, none⟩ (.int .i64 ((rd_T47 l0_1 x16_1).f1))).heap[gb112]? = some (.cells #[.int .i64 a0_0, .slice (some ad121) l0_1.length c0_1] 31 (0, 0))) := ⟨by refine blk_far ?_ NB112_122.1 _; refine blk_far ?_ NB112_122.1 _; exact BK112.1⟩
                          have n3_ : Aside0 (((w33.setCell ⟨gb122, 0, none⟩ (.int .i64 ((rd_T47 l0_1 x16_1).f0))).setCell ⟨gb122, 1, none⟩ (.int .i64 ((rd_T47 l0_1 x16_1).f1))).heap[gb113]? = some (.cells #[.slice none 0 0, .slice none 0 0] 50 (0, 0))) := ⟨by refine blk_far ?_ NB113_122.1 _; refine blk_far ?_ NB113_122.1 _; exact BK113.1⟩
                          have n4_ : Aside0 (((w33.setCell ⟨gb122, 0, none⟩ (.int .i64 ((rd_T47 l0_1 x16_1).f0))).setCell ⟨gb122, 1, none⟩ (.int .i64 ((rd_T47 l0_1 x16_1).f1))).heap[gb120]? = some (.cells #[u121000, u121001] 50 (0, 0))) := ⟨by refine blk_far ?_ NB120_122.1 _; refine blk_far ?_ NB120_122.1 _; exact BK120.1⟩
                          have n5_ : Aside0 (((w33.setCell ⟨gb122, 0, none⟩ (.int .i64 ((rd_T47 l0_1 x16_1).f0))).setCell ⟨gb122, 1, none⟩ (.int .i64 ((rd_T47 l0_1 x16_1).f1))).heap[gb122]? = some (.cells #[.int .i64 ((rd_T47 l0_1 x16_1).f0), .int .i64 ((rd_T47 l0_1 x16_1).f1)] 47 (0, 0))) := ⟨by refine blk_put (cs := #[.int .i64 ((rd_T47 l0_1 x16_1).f0), .int .i64 0]) ?_ 1 _ rfl; refine blk_put (cs := #[.int .i64 0, .int .i64 0]) ?_ 0 _ rfl; exact BK122.1⟩
                          have n6_ : Aside0 (Below w.heap.size w ((w33.setCell ⟨gb122, 0, none⟩ (.int .i64 ((rd_T47 l0_1 x16_1).f0))).setCell ⟨gb122, 1, none⟩ (.int .i64 ((rd_T47 l0_1 x16_1).f1)))) := ⟨by repeat (with_reducible first | exact HB.1 | refine below_set ?_ GE122.1)⟩
                          (try clear HO_121000)
                          (try clear HO_121001)
                          (try clear BK112)
                          (try clear BK113)
                          (try clear BK120)
                          (try clear BK122)
                          (try clear HB)
                          generalize ((w33.setCell ⟨gb122, 0, none⟩ (.int .i64 ((rd_T47 l0_1 x16_1).f0))).setCell ⟨gb122, 1, none⟩ (.int .i64 ((rd_T47 l0_1 x16_1).f1))) = w38 at n0_ n1_ n2_ n3_ n4_ n5_ n6_ ⊢
                          have HO_121000 := n0_
                          have HO_121001 := n1_
                          have BK112 := n2_
                          have BK113 := n3_
                          have BK120 := n4_
                          have BK122 := n5_
                          have HB := n6_
                          clear n0_ n1_ n2_ n3_ n4_ n5_ n6_
                          have n0_ := ak (Kd.S_drew HO_121000.1)
                          have n1_ := ak (Kd.S_drew HO_121001.1)
                          have n2_ := ak (blk_drew BK112.1)
                          have n3_ := ak (blk_drew BK113.1)
                          have n4_ := ak (blk_drew BK120.1)
                          have n5_ := ak (blk_drew BK122.1)
                          have n6_ := ak (below_drew1 HB.1)
                          clear HO_121000
                          clear HO_121001
                          clear BK112
                          clear BK113
                          clear BK120
                          clear BK122
                          clear HB
                          have HO_121000 := n0_
                          have HO_121001 := n1_
                          have BK112 := n2_
                          have BK113 := n3_
                          have BK120 := n4_
                          have BK122 := n5_
                          have HB := n6_
                          clear n0_ n1_ n2_ n3_ n4_ n5_ n6_
                          obtain ⟨PQ_, HPQ_, n0_, n1_⟩ := S_partA HO_121000.1 HO_121001.1
                          replace HPQ_ := ak HPQ_
                          clear HO_121000 HO_121001
                          have HO_121000 := ak n0_
                          have HO_121001 := ak n1_
                          clear n0_ n1_
                          obtain ⟨Ao40, co40, eo40⟩ := Kd.S_slice HO_121000.1
                          subst eo40
                          have p123 : 0 ≤ (((rd_T47 l0_1 x16_1).f0) : Int) := od_
                          have q123 : ((rd_T47 l0_1 x16_1).f0) < (x121000_1.length : Int) := od_
                          obtain ⟨ad123, A123_0, c123_0, e123, hx123_0, hl123_0, hi123_0⟩ := at_L2 (Kd.S_reads' HO_121000.1).2.2 ((rd_T47 l0_1 x16_1).f0) p123 q123
                          cases e123
                          obtain ⟨ce123, hce123, hMe123, hcc123⟩ := Kd.S_get HO_121000.1 [] ((rd_T47 l0_1 x16_1).f0) p123 (by exact q123)
                          obtain ⟨ve123_0, rfl, ge123_0⟩ := hMe123
                          have hv123_0 := hcc123 0 _ rfl
                          rw [Nat.add_zero, show ((Kd.slice 3 (Kd.int .i64))).sz = 1 from rfl, Nat.mul_one] at hv123_0
                          replace hv123_0 := Option.some.inj (hv123_0.symm.trans hx123_0)
                          rw [hv123_0] at ge123_0
                          have HL123_0 := ak (show Kd.R (Kd.int .i64) 3 _ _ _ _ (rd_L2 x121000_1 ((rd_T47 l0_1 x16_1).f0)) from ge123_0)
                          clear hv123_0 ge123_0
                          have HX123_0 := ak hx123_0
                          clear hcc123 hce123
                          have HR123_0 := ak hi123_0
                          have HC123_0 := ak hl123_0
                          clear hi123_0 hl123_0
                          replace p123 := eq_true p123
                          replace q123 := eq_true q123
                          obtain ⟨go41, co41, eo41, gb41, gl41, cl41, HG41⟩ := Kd.S_form HO_121000.1 (by have h_ : (((rd_T47 l0_1 x16_1).f0) : Int) < ((x121000_1.length : Int) : Int) := od_; have h2_ : 0 ≤ (((rd_T47 l0_1 x16_1).f0) : Int) := (od_); omega)
                          (cases eo41)
                          have GB41 := ak gb41
                          have GG41 := ak HG41
                          clear gb41 gl41 HG41
                          simp only [add_plain] at hx123_0
                          have HPG41 : PQ_ go41 := (Kd.S_R HO_121000.1).1 go41 rfl
                          obtain ⟨oki41, ce41, hcl41, hM41, hcc41, _, hok41, hH41⟩ := Kd.S_elem HO_121000.1 [] (((rd_T47 l0_1 x16_1).f0) : Int) (od_) (by have h_ : (((rd_T47 l0_1 x16_1).f0) : Int) < ((x121000_1.length : Int) : Int) := od_; exact h_)
                          obtain ⟨ve41_0, rfl, ge41_0⟩ := hM41
                          have hv41 := hcc41 0 _ rfl
                          have hX41 := HX123_0.1
                          (try simp only [add_plain] at hX41)
                          (try simp only [Nat.add_zero] at hv41)
                          (try rw [show ((Kd.slice 3 (Kd.int .i64))).sz = 1 from rfl, Nat.mul_one] at hv41)
                          replace hv41 := Option.some.inj (hv41.symm.trans hX41)
                          subst hv41
                          clear hX41 hcc41 hcl41
                          have UU41 := ak (show Kd.R (Kd.int .i64) 3 _ w.heap.size oki41 (.slice A123_0 (rd_L2 x121000_1 ((rd_T47 l0_1 x16_1).f0)).length c123_0) (rd_L2 x121000_1 ((rd_T47 l0_1 x16_1).f0)) from ge41_0)
                          have HH41 := ak hH41
                          have HN41 := ak (Kd.S_reads' HO_121000.1).1
                          clear hH41 ge41_0
                          refine start_ (n := 16) (S := fun w' => w'.cell? ⟨gb120, 0, none⟩ = some (.slice (some ⟨go41, 0, none⟩) x121000_1.length co40) ∧ w'.cell? ⟨gb120, 1, none⟩ = some (u121001) ∧ w'.cell? ⟨gb122, 0, none⟩ = some (.int .i64 ((rd_T47 l0_1 x16_1).f0)) ∧ w'.cell? ⟨gb122, 1, none⟩ = some (.int .i64 ((rd_T47 l0_1 x16_1).f1)) ∧ w'.cell? ⟨go41, (((rd_T47 l0_1 x16_1).f0)).toNat, none⟩ = some (.slice A123_0 (rd_L2 x121000_1 ((rd_T47 l0_1 x16_1).f0)).length c123_0)) (ds := [15]) #[false, false, false, false, false, false, false, false, false, false, false, false, false, false, false, false] (by kernel_rfl) rfl rfl ⟨(blk_cell BK120.1 0).trans rfl, (blk_cell BK120.1 1).trans rfl, (blk_cell BK122.1 0).trans rfl, (blk_cell BK122.1 1).trans rfl, hx123_0⟩ (fun hHeld => ?_); refine with_tabW precedence_listsOf.tab5 precedence_listsOf.bits5 (fun HT_ HW_ => ?_)
                          generalize w38.drew = w39 at HPQ_ HO_121000 HO_121001 BK112 BK113 BK120 BK122 HB GG41 HH41 HL123_0 HR123_0 HX123_0 UU41 hx123_0 hHeld ⊢
                          refine pure_ (i := 0) (N := some 20) (v := ?_) (a' := ?_) #[true, false, false, false, false, false, false, false, false, false, false, false, false, false, false, false] rfl rfl (any_of HT_.1 (by kernel_rfl)) (fun _ _ _ h => h) (Or.inl ⟨by rfl, ?_⟩) ?_ ?_
                          rotate_left
                          · intro w'
                            go_simp
                            with_reducible rfl
                          rotate_left
                          · simp only [Act.put, List.setIfInBounds_toArray, List.set_cons_zero, List.set_cons_succ, i64_w, i32_w]
                            rfl
                          refine pure_ (i := 2) (N := some 22) (v := ?_) (a' := ?_) #[true, false, true, false, false, false, false, false, false, false, false, false, false, false, false, false] rfl rfl (any_of HT_.1 (by kernel_rfl)) (fun _ _ _ h => h) (Or.inl ⟨by rfl, ?_⟩) ?_ ?_
                          rotate_left
                          · intro w'
                            go_simp
                            with_reducible rfl
                          rotate_left
                          · simp only [Act.put, List.setIfInBounds_toArray, List.set_cons_zero, List.set_cons_succ, i64_w, i32_w]
                            rfl
                          refine pure_ (i := 4) (N := some 24) (v := ?_) (a' := ?_) #[true, false, true, false, true, false, false, false, false, false, false, false, false, false, false, false] rfl rfl (any_of HT_.1 (by kernel_rfl)) (fun _ _ _ h => h) (Or.inl ⟨by rfl, ?_⟩) ?_ ?_
                          rotate_left
                          · intro w'
                            go_simp
                            with_reducible rfl
                          rotate_left
                          · simp only [Act.put, List.setIfInBounds_toArray, List.set_cons_zero, List.set_cons_succ, i64_w, i32_w]
                            rfl
                          refine pure_ (i := 6) (N := some 26) (v := ?_) (a' := ?_) #[true, false, true, false, true, false, true, false, false, false, false, false, false, false, false, false] rfl rfl (any_of HT_.1 (by kernel_rfl)) (fun _ _ _ h => h) (Or.inl ⟨by rfl, ?_⟩) ?_ ?_
                          rotate_left
                          · intro w'
                            go_simp
                            with_reducible rfl
                          rotate_left
                          · simp only [Act.put, List.setIfInBounds_toArray, List.set_cons_zero, List.set_cons_succ, i64_w, i32_w]
                            rfl
                          refine pure_ (i := 10) (N := some 30) (v := ?_) (a' := ?_) #[true, false, true, false, true, false, true, false, false, false, true, false, false, false, false, false] rfl rfl (any_of HT_.1 (by kernel_rfl)) (fun _ _ _ h => h) (Or.inl ⟨by rfl, ?_⟩) ?_ ?_
                          rotate_left
                          · intro w'
                            go_simp
                            with_reducible rfl
                          rotate_left
                          · simp only [Act.put, List.setIfInBounds_toArray, List.set_cons_zero, List.set_cons_succ, i64_w, i32_w]
                            rfl
                          refine take_ (i := 1) (N := some 21) (v := ?_) (a' := ?_) #[true, true, true, false, true, false, true, false, false, false, true, false, false, false, false, false] rfl rfl (take_ofW HT_.1 HW_.1 (by kernel_rfl)) (fun _ _ _ h => h) (Or.inl ⟨by rfl, ?_⟩) hHeld ?_ ?_
                          rotate_left
                          · rintro w' ⟨s0, s1, s2, s3, s4⟩
                            go_simp
                            with_reducible rfl
                          rotate_left
                          · simp only [Act.put, List.setIfInBounds_toArray, List.set_cons_zero, List.set_cons_succ, i64_w, i32_w]
                            rfl
                          refine take_ (i := 3) (N := some 23) (v := ?_) (a' := ?_) #[true, true, true, true, true, false, true, false, false, false, true, false, false, false, false, false] rfl rfl (take_ofW HT_.1 HW_.1 (by kernel_rfl)) (fun _ _ _ h => h) (Or.inl ⟨by rfl, ?_⟩) hHeld ?_ ?_
                          rotate_left
                          · rintro w' ⟨s0, s1, s2, s3, s4⟩
                            go_simp
                            with_reducible rfl
                          rotate_left
                          · simp only [Act.put, List.setIfInBounds_toArray, List.set_cons_zero, List.set_cons_succ, i64_w, i32_w]
                            rfl
                          refine take_ (i := 5) (N := some 25) (v := ?_) (a' := ?_) #[true, true, true, true, true, true, true, false, false, false, true, false, false, false, false, false] rfl rfl (take_ofW HT_.1 HW_.1 (by kernel_rfl)) (fun _ _ _ h => h) (Or.inl ⟨by rfl, ?_⟩) hHeld ?_ ?_
                          rotate_left
                          · rintro w' ⟨s0, s1, s2, s3, s4⟩
                            go_simp
                            with_reducible rfl
                          rotate_left
                          · simp only [Act.put, List.setIfInBounds_toArray, List.set_cons_zero, List.set_cons_succ, i64_w, i32_w]
                            rfl
                          refine take_ (i := 7) (N := some 27) (v := ?_) (a' := ?_) #[true, true, true, true, true, true, true, true, false, false, true, false, false, false, false, false] rfl rfl (take_ofW HT_.1 HW_.1 (by kernel_rfl)) (fun _ _ _ h => h) (Or.inl ⟨by rfl, ?_⟩) hHeld ?_ ?_
                          rotate_left
                          · rintro w' ⟨s0, s1, s2, s3, s4⟩
                            go_simp
                            with_reducible rfl
                          rotate_left
                          · simp only [Act.put, List.setIfInBounds_toArray, List.set_cons_zero, List.set_cons_succ, i64_w, i32_w]
                            rfl
                          refine pure_ (i := 8) (N := some 28) (v := ?_) (a' := ?_) #[true, true, true, true, true, true, true, true, true, false, true, false, false, false, false, false] rfl rfl (any_of HT_.1 (by kernel_rfl)) (fun _ _ _ h => h) (Or.inl ⟨by rfl, ?_⟩) ?_ ?_
                          rotate_left
                          · intro w'
                            go_simp
                            with_reducible rfl
                          rotate_left
                          · simp only [Act.put, List.setIfInBounds_toArray, List.set_cons_zero, List.set_cons_succ, i64_w, i32_w]
                            rfl
                          refine take_ (i := 9) (N := some 29) (v := ?_) (a' := ?_) #[true, true, true, true, true, true, true, true, true, true, true, false, false, false, false, false] rfl rfl (take_ofW HT_.1 HW_.1 (by kernel_rfl)) (fun _ _ _ h => h) (Or.inl ⟨by rfl, ?_⟩) hHeld ?_ ?_
                          rotate_left
                          · rintro w' ⟨s0, s1, s2, s3, s4⟩
                            go_simp
                            with_reducible rfl
                          rotate_left
                          · simp only [Act.put, List.setIfInBounds_toArray, List.set_cons_zero, List.set_cons_succ, i64_w, i32_w]
                            rfl
                          refine take_ (i := 11) (N := some 31) (v := ?_) (a' := ?_) #[true, true, true, true, true, true, true, true, true, true, true, true, false, false, false, false] rfl rfl (take_ofW HT_.1 HW_.1 (by kernel_rfl)) (fun _ _ _ h => h) (Or.inl ⟨by rfl, ?_⟩) hHeld ?_ ?_
                          rotate_left
                          · rintro w' ⟨s0, s1, s2, s3, s4⟩
                            go_simp
                            with_reducible rfl
                          rotate_left
                          · simp only [Act.put, List.setIfInBounds_toArray, List.set_cons_zero, List.set_cons_succ, i64_w, i32_w]
                            rfl
                          refine one_ (i := 12) (N := some 32) #[true, true, true, true, true, true, true, true, true, true, true, true, true, false, false, false] rfl rfl (one_of HT_.1 (by kernel_rfl)) (by decide) (fun K hK => ?_)
                          refine value_ (w1 := ?_) (v := ?_) (by rfl) rfl ?_ ?_
                          rotate_left 2
                          · go_simp
                            constructor
                            · rfl
                            rfl
                          refine hK.out _ _ ⟨(blk_cell (blk_alloc BK120.1 _) 0).trans rfl, (blk_cell (blk_alloc BK120.1 _) 1).trans rfl, (blk_cell (blk_alloc BK122.1 _) 0).trans rfl, (blk_cell (blk_alloc BK122.1 _) 1).trans rfl, (World.cell?_alloc_lt _ _ _ (World.block_lt_of_cell? _ _ (hHeld.2.2.2.2))).trans (hHeld.2.2.2.2)⟩ (fun hHeld => ?_)
                          clear hK K
                          refine norm_ (a' := ?_) ?_ ?_
                          rotate_left
                          · show Act.put _ (some 32) _ = _
                            simp only [Act.put, List.setIfInBounds_toArray, List.set_cons_zero, List.set_cons_succ, i64_w, i32_w]
                            rfl
                          refine one_ (i := 13) (N := some 33) #[true, true, true, true, true, true, true, true, true, true, true, true, true, true, false, false] rfl rfl (one_of HT_.1 (by kernel_rfl)) (by decide) (fun K hK => ?_)
                          refine Kd.R_append_step (Kd.int .i64) (w0 := w) w.heap.size (by rfl) (.tmp 29) (.tmp 32) 27 3 (.int .i64 0) 8 rfl Try.underlying27 info3 rfl (by decide) (by omega) (.slice A123_0 (rd_L2 x121000_1 ((rd_T47 l0_1 x16_1).f0)).length c123_0) (rd_L2 x121000_1 ((rd_T47 l0_1 x16_1).f0)) ((rd_T47 l0_1 x16_1).f1) [.int .i64 ((rd_T47 l0_1 x16_1).f1)] (fun k_ => oki41 k_ ∨ (fun k_ => PQ_ k_) k_ ∧ w39.heap.size ≤ k_) (fun _ => False) rfl rfl ?aP (fun _ hk => hk.elim) ?aF ?aO ?aB ?aS ?aL ?_
                          (case aP => exact rfl)
                          (case aB => exact HB.1)
                          (case aF => exact (fun k_ hk => .inr ⟨HPQ_.1 k_ hk, hk⟩))
                          (case aO => exact (by exact Kd.R_mono UU41.1 (fun _ hk => .inl hk)))
                          (case aS => exact (below_size HB.1))
                          (case aL => have := LMc27.1; omega)
                          intro v125 w42 ho hb hg hat
                          (have HS4_ := cell_grown hg (cell_unalloc (hHeld.2.2.2.2) (by exact Kd.S_lt HO_121000.1 _ rfl)) (by exact (fun e_ => ((HL123_0.1.1 _ e_.symm).2) rfl)))
                          rw [← Ny124.1] at ho
                          have n0_ := ak (Kd.S_grown (ok := fun k_ => ¬ PQ_ k_) (by exact HO_121001.1) hg (fun k_ hk e_ => hk (hok41 _ (UU41.1.1 k_ e_.symm)).1))
                          have n1_ := ak (blk_grown (g := gb112) (o := .cells #[.int .i64 a0_0, .slice (some ad121) l0_1.length c0_1] 31 (0, 0)) (by exact BK112.1) hg (Kd.R_ne HL123_0.1 BK112.1 (by decide)))
                          have n2_ := ak (blk_grown (g := gb113) (o := .cells #[.slice none 0 0, .slice none 0 0] 50 (0, 0)) (by exact BK113.1) hg (Kd.R_ne HL123_0.1 BK113.1 (by decide)))
                          have n3_ := ak (blk_grown (g := gb120) (o := .cells #[.slice (some ⟨go41, 0, none⟩) x121000_1.length co40, u121001] 50 (0, 0)) (by exact BK120.1) hg (Kd.R_ne HL123_0.1 BK120.1 (by decide)))
                          have n4_ := ak (blk_grown (g := gb122) (o := .cells #[.int .i64 ((rd_T47 l0_1 x16_1).f0), .int .i64 ((rd_T47 l0_1 x16_1).f1)] 47 (0, 0)) (by exact BK122.1) hg (Kd.R_ne HL123_0.1 BK122.1 (by decide)))
                          have n5_ := ak (hb)
                          have n6_ := ak (Kd.H_grown (Kd.H_widen (by exact HH41.1)) hg (fun k_ e_ => .inl (UU41.1.1 k_ e_)))
                          have n7_ := ak (ho)
                          clear HO_121001
                          clear BK112
                          clear BK113
                          clear BK120
                          clear BK122
                          clear HB
                          clear HH41
                          clear HO_121000
                          clear UU41
                          clear HL123_0
                          have HO_121001 := n0_
                          have BK112 := n1_
                          have BK113 := n2_
                          have BK120 := n3_
                          have BK122 := n4_
                          have HB := n5_
                          have HH41 := n6_
                          have HO126 := n7_
                          clear n0_ n1_ n2_ n3_ n4_ n5_ n6_ n7_
                          clear ho hb hg hat
                          have p28 : 0 ≤ (((rd_T47 l0_1 x16_1).f0) : Int) := od_
                          have q28 : (((rd_T47 l0_1 x16_1).f0) : Int) < ((x121000_1.length : Int) : Int) := od_
                          replace p28 := eq_true p28
                          replace q28 := eq_true q28
                          obtain ⟨Ao45, co45, eo45⟩ := Kd.R_slice HO126.1
                          subst eo45
                          obtain ⟨_, _, hraw43, _, _, hcc43, _⟩ := Kd.H_raw HH41.1 (od_) (by have h_ : (((rd_T47 l0_1 x16_1).f0) : Int) < ((x121000_1.length : Int) : Int) := od_; exact h_)
                          obtain ⟨_, hfr43⟩ := Kd.H_at HH41.1 (od_) (by have h_ : (((rd_T47 l0_1 x16_1).f0) : Int) < ((x121000_1.length : Int) : Int) := od_; exact h_)
                          have hx43_0 := hcc43 0 _ rfl
                          have hf43_0 := hfr43 0
                          (try simp only [Nat.add_zero] at hx43_0 hf43_0)
                          (try rw [show ((Kd.slice 3 (Kd.int .i64))).sz = 1 from rfl, Nat.mul_one] at hx43_0)
                          (try rw [show ((Kd.slice 3 (Kd.int .i64))).sz = 1 from rfl, Nat.mul_one] at hf43_0)
                          have HP43 := Kd.S_seg0 HH41.1 (od_) (by have h_ : (((rd_T47 l0_1 x16_1).f0) : Int) < ((x121000_1.length : Int) : Int) := od_; exact h_) (seg := [.slice Ao45 y124.length co45]) (j := 0) (show 1 ≤ 1 from by decide) (x' := y124) (Kd.M_row HO126.1) (fun _ hk => hk)
                          (try simp only [show ((Kd.slice 3 (Kd.int .i64))).sz = 1 from rfl, Nat.mul_one, Nat.add_zero] at HP43)
                          clear hcc43 hfr43
                          have HNB112_go41 := ak (show gb112 ≠ go41 from by have h_ := Kd.R_ne hraw43 BK112.1 (by decide); intro e_; exact h_ (by rw [e_]; rfl))
                          have HNB113_go41 := ak (show gb113 ≠ go41 from by have h_ := Kd.R_ne hraw43 BK113.1 (by decide); intro e_; exact h_ (by rw [e_]; rfl))
                          have HNB120_go41 := ak (show gb120 ≠ go41 from by have h_ := Kd.R_ne hraw43 BK120.1 (by decide); intro e_; exact h_ (by rw [e_]; rfl))
                          have HNB122_go41 := ak (show gb122 ≠ go41 from by have h_ := Kd.R_ne hraw43 BK122.1 (by decide); intro e_; exact h_ (by rw [e_]; rfl))
                          have HS43 := HP43.1
                          rw [← Ny127.1] at HS43
                          have HQ43 := ak HS43
                          obtain ⟨_, hgg43⟩ := Kd.R_typed hraw43 go41 rfl
                          have GG43_ := ak hgg43
                          clear HP43 HS43 hgg43
                          refine hK.out _ _ ⟨(blk_cell BK120.1 0).trans rfl, (blk_cell BK120.1 1).trans rfl, (blk_cell BK122.1 0).trans rfl, (blk_cell BK122.1 1).trans rfl, HS4_⟩ (fun hHeld => ?_)
                          clear hK K
                          refine norm_ (a' := ?_) ?_ ?_
                          rotate_left
                          · show Act.put _ (some 33) _ = _
                            simp only [Act.put, List.setIfInBounds_toArray, List.set_cons_zero, List.set_cons_succ, i64_w, i32_w]
                            rfl
                          refine pure_ (i := 14) (N := some 34) (v := ?_) (a' := ?_) #[true, true, true, true, true, true, true, true, true, true, true, true, true, true, true, false] rfl rfl (any_of HT_.1 (by kernel_rfl)) (fun _ _ _ h => h) (Or.inl ⟨by rfl, ?_⟩) ?_ ?_
                          rotate_left
                          · intro w'
                            go_simp
                            with_reducible rfl
                          rotate_left
                          · simp only [Act.put, List.setIfInBounds_toArray, List.set_cons_zero, List.set_cons_succ, i64_w, i32_w]
                            rfl
                          refine last_ (i := 15) (N := none) #[true, true, true, true, true, true, true, true, true, true, true, true, true, true, true, true] rfl rfl (one_of HT_.1 (by kernel_rfl)) (by decide) (fun K hK => ?_)
                          refine skip_ (w1 := ?_) (by rfl) rfl ?_ ?_
                          rotate_left
                          · go_simp
                            rfl
                          refine hK.out _ _ ?_
                          clear hK K
                          refine done_ (done_of HT_.1 (by kernel_rfl)) ?_
                          try go_wp2
                          have n0_ : Aside0 (Kd.S (Kd.slice 3 (Kd.int .i64)) 27 (w42.setCell ⟨go41, (((rd_T47 l0_1 x16_1).f0) : Int).toNat, none⟩ (.slice Ao45 y124.length co45)) w.heap.size (fun k_ => ¬ PQ_ k_) u121001 x121001_1) := ⟨by exact Kd.S_mono (Kd.S_far (p := ⟨go41, (((rd_T47 l0_1 x16_1).f0) : Int).toNat, none⟩) (Kd.S_mono HO_121001.1 (fun k_ hk => (⟨hk, fun e_ => hk (by rw [e_]; exact HPG41)⟩ : _ ∧ k_ ≠ go41))) (fun _ hk => hk.2) (.slice Ao45 y124.length co45)) (fun _ hk => hk.1)⟩
                          have n1_ : Aside0 (Kd.S (Kd.slice 3 (Kd.int .i64)) 27 (w42.setCell ⟨go41, (((rd_T47 l0_1 x16_1).f0) : Int).toNat, none⟩ (.slice Ao45 y124.length co45)) w.heap.size (fun k_ => PQ_ k_) (.slice (some ⟨go41, 0, none⟩) x121000_1.length co40) y127) := ⟨by exact HQ43.1⟩
                          have n2_ : Aside0 ((w42.setCell ⟨go41, (((rd_T47 l0_1 x16_1).f0) : Int).toNat, none⟩ (.slice Ao45 y124.length co45)).heap[gb112]? = some (.cells #[.int .i64 a0_0, .slice (some ad121) l0_1.length c0_1] 31 (0, 0))) := ⟨by refine blk_far ?_ HNB112_go41.1 _; exact BK112.1⟩
                          have n3_ : Aside0 ((w42.setCell ⟨go41, (((rd_T47 l0_1 x16_1).f0) : Int).toNat, none⟩ (.slice Ao45 y124.length co45)).heap[gb113]? = some (.cells #[.slice none 0 0, .slice none 0 0] 50 (0, 0))) := ⟨by refine blk_far ?_ HNB113_go41.1 _; exact BK113.1⟩
                          have n4_ : Aside0 ((w42.setCell ⟨go41, (((rd_T47 l0_1 x16_1).f0) : Int).toNat, none⟩ (.slice Ao45 y124.length co45)).heap[gb120]? = some (.cells #[.slice (some ⟨go41, 0, none⟩) x121000_1.length co40, u121001] 50 (0, 0))) := ⟨by refine blk_far ?_ HNB120_go41.1 _; exact BK120.1⟩
                          have n5_ : Aside0 ((w42.setCell ⟨go41, (((rd_T47 l0_1 x16_1).f0) : Int).toNat, none⟩ (.slice Ao45 y124.length co45)).heap[gb122]? = some (.cells #[.int .i64 ((rd_T47 l0_1 x16_1).f0), .int .i64 ((rd_T47 l0_1 x16_1).f1)] 47 (0, 0))) := ⟨by refine blk_far ?_ HNB122_go41.1 _; exact BK122.1⟩
                          have n6_ : Aside0 (Below w.heap.size w (w42.setCell ⟨go41, (((rd_T47 l0_1 x16_1).f0) : Int).toNat, none⟩ (.slice Ao45 y124.length co45))) := ⟨by repeat (with_reducible first | exact HB.1 | refine below_set ?_ GB41.1 )⟩
                          (try clear HO_121001)
                          (try clear BK112)
                          (try clear BK113)
                          (try clear BK120)
                          (try clear BK122)
                          (try clear HB)
                          generalize (w42.setCell ⟨go41, (((rd_T47 l0_1 x16_1).f0) : Int).toNat, none⟩ (.slice Ao45 y124.length co45)) = w46 at n0_ n1_ n2_ n3_ n4_ n5_ n6_ ⊢
                          have HO_121001 := n0_
                          have HO_121000 := n1_
                          have BK112 := n2_
                          have BK113 := n3_
                          have BK120 := n4_
                          have BK122 := n5_
                          have HB := n6_
                          clear n0_ n1_ n2_ n3_ n4_ n5_ n6_
                          have n0_ := ak (Kd.S_drew HO_121001.1)
                          have n1_ := ak (Kd.S_drew HO_121000.1)
                          have n2_ := ak (blk_drew BK112.1)
                          have n3_ := ak (blk_drew BK113.1)
                          have n4_ := ak (blk_drew BK120.1)
                          have n5_ := ak (blk_drew BK122.1)
                          have n6_ := ak (below_drew1 HB.1)
                          clear HO_121001
                          clear HO_121000
                          clear BK112
                          clear BK113
                          clear BK120
                          clear BK122
                          clear HB
                          have HO_121001 := n0_
                          have HO_121000 := n1_
                          have BK112 := n2_
                          have BK113 := n3_
                          have BK120 := n4_
                          have BK122 := n5_
                          have HB := n6_
                          clear n0_ n1_ n2_ n3_ n4_ n5_ n6_
                          obtain ⟨PR_, HPR_, n0_, n1_⟩ := S_partB HO_121000.1 HO_121001.1
                          replace HPR_ := ak HPR_
                          clear HO_121000 HO_121001
                          have HO_121000 := ak n0_
                          have HO_121001 := ak n1_
                          clear n0_ n1_
                          obtain ⟨Ao48, co48, eo48⟩ := Kd.S_slice HO_121001.1
                          subst eo48
                          have p128 : 0 ≤ (((rd_T47 l0_1 x16_1).f1) : Int) := od_
                          have q128 : ((rd_T47 l0_1 x16_1).f1) < (x121001_1.length : Int) := od_
                          obtain ⟨ad128, A128_0, c128_0, e128, hx128_0, hl128_0, hi128_0⟩ := at_L2 (Kd.S_reads' HO_121001.1).2.2 ((rd_T47 l0_1 x16_1).f1) p128 q128
                          cases e128
                          obtain ⟨ce128, hce128, hMe128, hcc128⟩ := Kd.S_get HO_121001.1 [] ((rd_T47 l0_1 x16_1).f1) p128 (by exact q128)
                          obtain ⟨ve128_0, rfl, ge128_0⟩ := hMe128
                          have hv128_0 := hcc128 0 _ rfl
                          rw [Nat.add_zero, show ((Kd.slice 3 (Kd.int .i64))).sz = 1 from rfl, Nat.mul_one] at hv128_0
                          replace hv128_0 := Option.some.inj (hv128_0.symm.trans hx128_0)
                          rw [hv128_0] at ge128_0
                          have HL128_0 := ak (show Kd.R (Kd.int .i64) 3 _ _ _ _ (rd_L2 x121001_1 ((rd_T47 l0_1 x16_1).f1)) from ge128_0)
                          clear hv128_0 ge128_0
                          have HX128_0 := ak hx128_0
                          clear hcc128 hce128
                          have HR128_0 := ak hi128_0
                          have HC128_0 := ak hl128_0
                          clear hi128_0 hl128_0
                          replace p128 := eq_true p128
                          replace q128 := eq_true q128
                          obtain ⟨go49, co49, eo49, gb49, gl49, cl49, HG49⟩ := Kd.S_form HO_121001.1 (by have h_ : (((rd_T47 l0_1 x16_1).f1) : Int) < ((x121001_1.length : Int) : Int) := od_; have h2_ : 0 ≤ (((rd_T47 l0_1 x16_1).f1) : Int) := (od_); omega)
                          (cases eo49)
                          have GB49 := ak gb49
                          have GG49 := ak HG49
                          clear gb49 gl49 HG49
                          simp only [add_plain] at hx128_0
                          have HPG49 : ¬ PR_ go49 := (Kd.S_R HO_121001.1).1 go49 rfl
                          obtain ⟨oki49, ce49, hcl49, hM49, hcc49, _, hok49, hH49⟩ := Kd.S_elem HO_121001.1 [] (((rd_T47 l0_1 x16_1).f1) : Int) (od_) (by have h_ : (((rd_T47 l0_1 x16_1).f1) : Int) < ((x121001_1.length : Int) : Int) := od_; exact h_)
                          obtain ⟨ve49_0, rfl, ge49_0⟩ := hM49
                          have hv49 := hcc49 0 _ rfl
                          have hX49 := HX128_0.1
                          (try simp only [add_plain] at hX49)
                          (try simp only [Nat.add_zero] at hv49)
                          (try rw [show ((Kd.slice 3 (Kd.int .i64))).sz = 1 from rfl, Nat.mul_one] at hv49)
                          replace hv49 := Option.some.inj (hv49.symm.trans hX49)
                          subst hv49
                          clear hX49 hcc49 hcl49
                          have UU49 := ak (show Kd.R (Kd.int .i64) 3 _ w.heap.size oki49 (.slice A128_0 (rd_L2 x121001_1 ((rd_T47 l0_1 x16_1).f1)).length c128_0) (rd_L2 x121001_1 ((rd_T47 l0_1 x16_1).f1)) from ge49_0)
                          have HH49 := ak hH49
                          have HN49 := ak (Kd.S_reads' HO_121001.1).1
                          clear hH49 ge49_0
                          refine start_ (n := 16) (S := fun w' => w'.cell? ⟨gb120, 0, none⟩ = some (.slice (some ⟨go41, 0, none⟩) x121000_1.length co40) ∧ w'.cell? ⟨gb120, 1, none⟩ = some (.slice (some ⟨go49, 0, none⟩) x121001_1.length co48) ∧ w'.cell? ⟨gb122, 0, none⟩ = some (.int .i64 ((rd_T47 l0_1 x16_1).f0)) ∧ w'.cell? ⟨gb122, 1, none⟩ = some (.int .i64 ((rd_T47 l0_1 x16_1).f1)) ∧ w'.cell? ⟨go49, (((rd_T47 l0_1 x16_1).f1)).toNat, none⟩ = some (.slice A128_0 (rd_L2 x121001_1 ((rd_T47 l0_1 x16_1).f1)).length c128_0)) (ds := [15]) #[false, false, false, false, false, false, false, false, false, false, false, false, false, false, false, false] (by kernel_rfl) rfl rfl ⟨(blk_cell BK120.1 0).trans rfl, (blk_cell BK120.1 1).trans rfl, (blk_cell BK122.1 0).trans rfl, (blk_cell BK122.1 1).trans rfl, hx128_0⟩ (fun hHeld => ?_); refine with_tabW precedence_listsOf.tab6 precedence_listsOf.bits6 (fun HT_ HW_ => ?_)
                          generalize w46.drew = w47 at HPR_ HO_121001 HO_121000 BK112 BK113 BK120 BK122 HB GG49 HH49 HL128_0 HQ43 HR128_0 HX128_0 UU49 hx128_0 hHeld ⊢
                          refine pure_ (i := 0) (N := some 35) (v := ?_) (a' := ?_) #[true, false, false, false, false, false, false, false, false, false, false, false, false, false, false, false] rfl rfl (any_of HT_.1 (by kernel_rfl)) (fun _ _ _ h => h) (Or.inl ⟨by rfl, ?_⟩) ?_ ?_
                          rotate_left
                          · intro w'
                            go_simp
                            with_reducible rfl
                          rotate_left
                          · simp only [Act.put, List.setIfInBounds_toArray, List.set_cons_zero, List.set_cons_succ, i64_w, i32_w]
                            rfl
                          refine pure_ (i := 2) (N := some 37) (v := ?_) (a' := ?_) #[true, false, true, false, false, false, false, false, false, false, false, false, false, false, false, false] rfl rfl (any_of HT_.1 (by kernel_rfl)) (fun _ _ _ h => h) (Or.inl ⟨by rfl, ?_⟩) ?_ ?_
                          rotate_left
                          · intro w'
                            go_simp
                            with_reducible rfl
                          rotate_left
                          · simp only [Act.put, List.setIfInBounds_toArray, List.set_cons_zero, List.set_cons_succ, i64_w, i32_w]
                            rfl
                          refine pure_ (i := 4) (N := some 39) (v := ?_) (a' := ?_) #[true, false, true, false, true, false, false, false, false, false, false, false, false, false, false, false] rfl rfl (any_of HT_.1 (by kernel_rfl)) (fun _ _ _ h => h) (Or.inl ⟨by rfl, ?_⟩) ?_ ?_
                          rotate_left
                          · intro w'
                            go_simp
                            with_reducible rfl
                          rotate_left
                          · simp only [Act.put, List.setIfInBounds_toArray, List.set_cons_zero, List.set_cons_succ, i64_w, i32_w]
                            rfl
                          refine pure_ (i := 6) (N := some 41) (v := ?_) (a' := ?_) #[true, false, true, false, true, false, true, false, false, false, false, false, false, false, false, false] rfl rfl (any_of HT_.1 (by kernel_rfl)) (fun _ _ _ h => h) (Or.inl ⟨by rfl, ?_⟩) ?_ ?_
                          rotate_left
                          · intro w'
                            go_simp
                            with_reducible rfl
                          rotate_left
                          · simp only [Act.put, List.setIfInBounds_toArray, List.set_cons_zero, List.set_cons_succ, i64_w, i32_w]
                            rfl
                          refine pure_ (i := 10) (N := some 45) (v := ?_) (a' := ?_) #[true, false, true, false, true, false, true, false, false, false, true, false, false, false, false, false] rfl rfl (any_of HT_.1 (by kernel_rfl)) (fun _ _ _ h => h) (Or.inl ⟨by rfl, ?_⟩) ?_ ?_
                          rotate_left
                          · intro w'
                            go_simp
                            with_reducible rfl
                          rotate_left
                          · simp only [Act.put, List.setIfInBounds_toArray, List.set_cons_zero, List.set_cons_succ, i64_w, i32_w]
                            rfl
                          refine take_ (i := 1) (N := some 36) (v := ?_) (a' := ?_) #[true, true, true, false, true, false, true, false, false, false, true, false, false, false, false, false] rfl rfl (take_ofW HT_.1 HW_.1 (by kernel_rfl)) (fun _ _ _ h => h) (Or.inl ⟨by rfl, ?_⟩) hHeld ?_ ?_
                          rotate_left
                          · rintro w' ⟨s0, s1, s2, s3, s4⟩
                            go_simp
                            with_reducible rfl
                          rotate_left
                          · simp only [Act.put, List.setIfInBounds_toArray, List.set_cons_zero, List.set_cons_succ, i64_w, i32_w]
                            rfl
                          refine take_ (i := 3) (N := some 38) (v := ?_) (a' := ?_) #[true, true, true, true, true, false, true, false, false, false, true, false, false, false, false, false] rfl rfl (take_ofW HT_.1 HW_.1 (by kernel_rfl)) (fun _ _ _ h => h) (Or.inl ⟨by rfl, ?_⟩) hHeld ?_ ?_
                          rotate_left
                          · rintro w' ⟨s0, s1, s2, s3, s4⟩
                            go_simp
                            with_reducible rfl
                          rotate_left
                          · simp only [Act.put, List.setIfInBounds_toArray, List.set_cons_zero, List.set_cons_succ, i64_w, i32_w]
                            rfl
                          refine take_ (i := 5) (N := some 40) (v := ?_) (a' := ?_) #[true, true, true, true, true, true, true, false, false, false, true, false, false, false, false, false] rfl rfl (take_ofW HT_.1 HW_.1 (by kernel_rfl)) (fun _ _ _ h => h) (Or.inl ⟨by rfl, ?_⟩) hHeld ?_ ?_
                          rotate_left
                          · rintro w' ⟨s0, s1, s2, s3, s4⟩
                            go_simp
                            with_reducible rfl
                          rotate_left
                          · simp only [Act.put, List.setIfInBounds_toArray, List.set_cons_zero, List.set_cons_succ, i64_w, i32_w]
                            rfl
                          refine take_ (i := 7) (N := some 42) (v := ?_) (a' := ?_) #[true, true, true, true, true, true, true, true, false, false, true, false, false, false, false, false] rfl rfl (take_ofW HT_.1 HW_.1 (by kernel_rfl)) (fun _ _ _ h => h) (Or.inl ⟨by rfl, ?_⟩) hHeld ?_ ?_
                          rotate_left
                          · rintro w' ⟨s0, s1, s2, s3, s4⟩
                            go_simp
                            with_reducible rfl
                          rotate_left
                          · simp only [Act.put, List.setIfInBounds_toArray, List.set_cons_zero, List.set_cons_succ, i64_w, i32_w]
                            rfl
                          refine pure_ (i := 8) (N := some 43) (v := ?_) (a' := ?_) #[true, true, true, true, true, true, true, true, true, false, true, false, false, false, false, false] rfl rfl (any_of HT_.1 (by kernel_rfl)) (fun _ _ _ h => h) (Or.inl ⟨by rfl, ?_⟩) ?_ ?_
                          rotate_left
                          · intro w'
                            go_simp
                            with_reducible rfl
                          rotate_left
                          · simp only [Act.put, List.setIfInBounds_toArray, List.set_cons_zero, List.set_cons_succ, i64_w, i32_w]
                            rfl
                          refine take_ (i := 9) (N := some 44) (v := ?_) (a' := ?_) #[true, true, true, true, true, true, true, true, true, true, true, false, false, false, false, false] rfl rfl (take_ofW HT_.1 HW_.1 (by kernel_rfl)) (fun _ _ _ h => h) (Or.inl ⟨by rfl, ?_⟩) hHeld ?_ ?_
                          rotate_left
                          · rintro w' ⟨s0, s1, s2, s3, s4⟩
                            go_simp
                            with_reducible rfl
                          rotate_left
                          · simp only [Act.put, List.setIfInBounds_toArray, List.set_cons_zero, List.set_cons_succ, i64_w, i32_w]
                            rfl
                          refine take_ (i := 11) (N := some 46) (v := ?_) (a' := ?_) #[true, true, true, true, true, true, true, true, true, true, true, true, false, false, false, false] rfl rfl (take_ofW HT_.1 HW_.1 (by kernel_rfl)) (fun _ _ _ h => h) (Or.inl ⟨by rfl, ?_⟩) hHeld ?_ ?_
                          rotate_left
                          · rintro w' ⟨s0, s1, s2, s3, s4⟩
                            go_simp
                            with_reducible rfl
                          rotate_left
                          · simp only [Act.put, List.setIfInBounds_toArray, List.set_cons_zero, List.set_cons_succ, i64_w, i32_w]
                            rfl
                          refine one_ (i := 12) (N := some 47) #[true, true, true, true, true, true, true, true, true, true, true, true, true, false, false, false] rfl rfl (one_of HT_.1 (by kernel_rfl)) (by decide) (fun K hK => ?_)
                          refine value_ (w1 := ?_) (v := ?_) (by rfl) rfl ?_ ?_
                          rotate_left 2
                          · go_simp
                            constructor
                            · rfl
                            rfl
                          refine hK.out _ _ ⟨(blk_cell (blk_alloc BK120.1 _) 0).trans rfl, (blk_cell (blk_alloc BK120.1 _) 1).trans rfl, (blk_cell (blk_alloc BK122.1 _) 0).trans rfl, (blk_cell (blk_alloc BK122.1 _) 1).trans rfl, (World.cell?_alloc_lt _ _ _ (World.block_lt_of_cell? _ _ (hHeld.2.2.2.2))).trans (hHeld.2.2.2.2)⟩ (fun hHeld => ?_)
                          clear hK K
                          refine norm_ (a' := ?_) ?_ ?_
                          rotate_left
                          · show Act.put _ (some 47) _ = _
                            simp only [Act.put, List.setIfInBounds_toArray, List.set_cons_zero, List.set_cons_succ, i64_w, i32_w]
                            rfl
                          refine one_ (i := 13) (N := some 48) #[true, true, true, true, true, true, true, true, true, true, true, true, true, true, false, false] rfl rfl (one_of HT_.1 (by kernel_rfl)) (by decide) (fun K hK => ?_)
                          refine Kd.R_append_step (Kd.int .i64) (w0 := w) w.heap.size (by rfl) (.tmp 44) (.tmp 47) 27 3 (.int .i64 0) 8 rfl Try.underlying27 info3 rfl (by decide) (by omega) (.slice A128_0 (rd_L2 x121001_1 ((rd_T47 l0_1 x16_1).f1)).length c128_0) (rd_L2 x121001_1 ((rd_T47 l0_1 x16_1).f1)) ((rd_T47 l0_1 x16_1).f0) [.int .i64 ((rd_T47 l0_1 x16_1).f0)] (fun k_ => oki49 k_ ∨ (fun k_ => ¬ PR_ k_) k_ ∧ w47.heap.size ≤ k_) (fun _ => False) rfl rfl ?aP (fun _ hk => hk.elim) ?aF ?aO ?aB ?aS ?aL ?_
                          (case aP => exact rfl)
                          (case aB => exact HB.1)
                          (case aF => exact (fun k_ hk => .inr ⟨HPR_.1 k_ hk, hk⟩))
                          (case aO => exact (by exact Kd.R_mono UU49.1 (fun _ hk => .inl hk)))
                          (case aS => exact (below_size HB.1))
                          (case aL => have := LMc31.1; omega)
                          intro v130 w50 ho hb hg hat
                          (have HS4_ := cell_grown hg (cell_unalloc (hHeld.2.2.2.2) (by exact Kd.S_lt HO_121001.1 _ rfl)) (by exact (fun e_ => ((HL128_0.1.1 _ e_.symm).2) rfl)))
                          rw [← Ny129.1] at ho
                          have n0_ := ak (blk_grown (g := gb112) (o := .cells #[.int .i64 a0_0, .slice (some ad121) l0_1.length c0_1] 31 (0, 0)) (by exact BK112.1) hg (Kd.R_ne HL128_0.1 BK112.1 (by decide)))
                          have n1_ := ak (blk_grown (g := gb113) (o := .cells #[.slice none 0 0, .slice none 0 0] 50 (0, 0)) (by exact BK113.1) hg (Kd.R_ne HL128_0.1 BK113.1 (by decide)))
                          have n2_ := ak (blk_grown (g := gb120) (o := .cells #[.slice (some ⟨go41, 0, none⟩) x121000_1.length co40, .slice (some ⟨go49, 0, none⟩) x121001_1.length co48] 50 (0, 0)) (by exact BK120.1) hg (Kd.R_ne HL128_0.1 BK120.1 (by decide)))
                          have n3_ := ak (blk_grown (g := gb122) (o := .cells #[.int .i64 ((rd_T47 l0_1 x16_1).f0), .int .i64 ((rd_T47 l0_1 x16_1).f1)] 47 (0, 0)) (by exact BK122.1) hg (Kd.R_ne HL128_0.1 BK122.1 (by decide)))
                          have n4_ := ak (Kd.S_grown (ok := fun k_ => PR_ k_) (by exact HO_121000.1) hg (fun k_ hk e_ => (hok49 _ (UU49.1.1 k_ e_.symm)).1 hk))
                          have n5_ := ak (hb)
                          have n6_ := ak (Kd.H_grown (Kd.H_widen (by exact HH49.1)) hg (fun k_ e_ => .inl (UU49.1.1 k_ e_)))
                          have n7_ := ak (ho)
                          clear BK112
                          clear BK113
                          clear BK120
                          clear BK122
                          clear HO_121000
                          clear HB
                          clear HH49
                          clear HO_121001
                          clear UU49
                          clear HL128_0
                          have BK112 := n0_
                          have BK113 := n1_
                          have BK120 := n2_
                          have BK122 := n3_
                          have HO_121000 := n4_
                          have HB := n5_
                          have HH49 := n6_
                          have HO131 := n7_
                          clear n0_ n1_ n2_ n3_ n4_ n5_ n6_ n7_
                          clear ho hb hg hat
                          have p32 : 0 ≤ (((rd_T47 l0_1 x16_1).f1) : Int) := od_
                          have q32 : (((rd_T47 l0_1 x16_1).f1) : Int) < ((x121001_1.length : Int) : Int) := od_
                          replace p32 := eq_true p32
                          replace q32 := eq_true q32
                          obtain ⟨Ao53, co53, eo53⟩ := Kd.R_slice HO131.1
                          subst eo53
                          obtain ⟨_, _, hraw51, _, _, hcc51, _⟩ := Kd.H_raw HH49.1 (od_) (by have h_ : (((rd_T47 l0_1 x16_1).f1) : Int) < ((x121001_1.length : Int) : Int) := od_; exact h_)
                          obtain ⟨_, hfr51⟩ := Kd.H_at HH49.1 (od_) (by have h_ : (((rd_T47 l0_1 x16_1).f1) : Int) < ((x121001_1.length : Int) : Int) := od_; exact h_)
                          have hx51_0 := hcc51 0 _ rfl
                          have hf51_0 := hfr51 0
                          (try simp only [Nat.add_zero] at hx51_0 hf51_0)
                          (try rw [show ((Kd.slice 3 (Kd.int .i64))).sz = 1 from rfl, Nat.mul_one] at hx51_0)
                          (try rw [show ((Kd.slice 3 (Kd.int .i64))).sz = 1 from rfl, Nat.mul_one] at hf51_0)
                          have HP51 := Kd.S_seg0 HH49.1 (od_) (by have h_ : (((rd_T47 l0_1 x16_1).f1) : Int) < ((x121001_1.length : Int) : Int) := od_; exact h_) (seg := [.slice Ao53 y129.length co53]) (j := 0) (show 1 ≤ 1 from by decide) (x' := y129) (Kd.M_row HO131.1) (fun _ hk => hk)
                          (try simp only [show ((Kd.slice 3 (Kd.int .i64))).sz = 1 from rfl, Nat.mul_one, Nat.add_zero] at HP51)
                          clear hcc51 hfr51
                          have HNB112_go49 := ak (show gb112 ≠ go49 from by have h_ := Kd.R_ne hraw51 BK112.1 (by decide); intro e_; exact h_ (by rw [e_]; rfl))
                          have HNB113_go49 := ak (show gb113 ≠ go49 from by have h_ := Kd.R_ne hraw51 BK113.1 (by decide); intro e_; exact h_ (by rw [e_]; rfl))
                          have HNB120_go49 := ak (show gb120 ≠ go49 from by have h_ := Kd.R_ne hraw51 BK120.1 (by decide); intro e_; exact h_ (by rw [e_]; rfl))
                          have HNB122_go49 := ak (show gb122 ≠ go49 from by have h_ := Kd.R_ne hraw51 BK122.1 (by decide); intro e_; exact h_ (by rw [e_]; rfl))
                          have HS51 := HP51.1
                          rw [← Ny132.1] at HS51
                          have HQ51 := ak HS51
                          obtain ⟨_, hgg51⟩ := Kd.R_typed hraw51 go49 rfl
                          have GG51_ := ak hgg51
                          clear HP51 HS51 hgg51
                          refine hK.out _ _ ⟨(blk_cell BK120.1 0).trans rfl, (blk_cell BK120.1 1).trans rfl, (blk_cell BK122.1 0).trans rfl, (blk_cell BK122.1 1).trans rfl, HS4_⟩ (fun hHeld => ?_)
                          clear hK K
                          refine norm_ (a' := ?_) ?_ ?_
                          rotate_left
                          · show Act.put _ (some 48) _ = _
                            simp only [Act.put, List.setIfInBounds_toArray, List.set_cons_zero, List.set_cons_succ, i64_w, i32_w]
                            rfl
                          refine pure_ (i := 14) (N := some 49) (v := ?_) (a' := ?_) #[true, true, true, true, true, true, true, true, true, true, true, true, true, true, true, false] rfl rfl (any_of HT_.1 (by kernel_rfl)) (fun _ _ _ h => h) (Or.inl ⟨by rfl, ?_⟩) ?_ ?_
                          rotate_left
                          · intro w'
                            go_simp
                            with_reducible rfl
                          rotate_left
                          · simp only [Act.put, List.setIfInBounds_toArray, List.set_cons_zero, List.set_cons_succ, i64_w, i32_w]
                            rfl
                          refine last_ (i := 15) (N := none) #[true, true, true, true, true, true, true, true, true, true, true, true, true, true, true, true] rfl rfl (one_of HT_.1 (by kernel_rfl)) (by decide) (fun K hK => ?_)
                          refine skip_ (w1 := ?_) (by rfl) rfl ?_ ?_
                          rotate_left
                          · go_simp
                            rfl
                          refine hK.out _ _ ?_
                          clear hK K
                          refine done_ (done_of HT_.1 (by kernel_rfl)) ?_
                          try go_wp2
                          go_roundg k1
                          case measure => have := HK1.1; omega
                          case rel => exact ⟨(wrap64 (x16_1 + 1)), (y127), (y132), (.slice (some ⟨go41, 0, none⟩) x121000_1.length co40), (.slice (some ⟨go49, 0, none⟩) x121001_1.length co48), PR_, (by rfl), H', ⟨by have := HK1.1; omega⟩, ⟨by exact Kd.S_mono (Kd.S_far (p := ⟨go49, (((rd_T47 l0_1 x16_1).f1) : Int).toNat, none⟩) (Kd.S_mono HO_121000.1 (fun k_ hk => (⟨hk, fun e_ => HPG49 (by rw [← e_]; exact hk)⟩ : _ ∧ k_ ≠ go49))) (fun _ hk => hk.2) (.slice Ao53 y129.length co53)) (fun _ hk => hk.1)⟩, ⟨by exact HQ51.1⟩, ⟨by refine blk_far ?_ HNB112_go49.1 _; exact BK112.1⟩, ⟨by refine blk_far ?_ HNB113_go49.1 _; exact BK113.1⟩, ⟨by refine blk_far ?_ HNB120_go49.1 _; exact BK120.1⟩, ⟨by repeat (with_reducible first | exact HB.1 | refine below_set ?_ GB49.1 )⟩⟩
                        rw [if_neg c31] at H
                        exact absurd H (by simp)
                      rw [if_neg c30] at H
                      exact absurd H (by simp)
                    rw [if_neg c29] at H
                    exact absurd H (by simp)
                  rw [if_neg c27] at H
                  exact absurd H (by simp)
                rw [if_neg c26] at H
                exact absurd H (by simp)
              rw [if_neg c25] at H
              exact absurd H (by simp)
            rw [if_neg c24] at H
            exact absurd H (by simp)
          rw [if_neg c23] at H
          exact absurd H (by simp)
        rw [if_neg c22] at H
        have c22b0 : decide (x16_1 < (l0_1.length : Int)) = false := decide_eq_false c22
        clear c22
        simp only [Option.some.injEq, Prod.mk.injEq] at H
        obtain ⟨rfl, rfl⟩ := H
        have hnb54 := NB120_112.1
        have hnc54 := NB112_120.1
        have hnb55 := NB120_113.1
        have hnc55 := NB113_120.1
        have hcz56_0 : wr.cell? ⟨gb120, 0, none⟩ = some (u121000) := (blk_cell BK120.1 0).trans rfl
        have hcz56_1 : wr.cell? ⟨gb120, 1, none⟩ = some (u121001) := (blk_cell BK120.1 1).trans rfl
        have hfz56_0 := blk_frozen BK120.1 0
        have hfz56_1 := blk_frozen BK120.1 1
        obtain ⟨Ao57, co57, eo57⟩ := Kd.S_slice HO_121000.1
        subst eo57
        have hnb58 := NB113_112.1
        have hnc58 := NB112_113.1
        have hcz59_0 : wr.cell? ⟨gb113, 0, none⟩ = some (.slice none 0 0) := (blk_cell BK113.1 0).trans rfl
        have hcz59_1 : wr.cell? ⟨gb113, 1, none⟩ = some (.slice none 0 0) := (blk_cell BK113.1 1).trans rfl
        have hfz59_0 := blk_frozen BK113.1 0
        have hfz59_1 := blk_frozen BK113.1 1
        obtain ⟨Ao60, co60, eo60⟩ := Kd.S_slice HO_121001.1
        subst eo60
        go_wp2
        refine bodyPost_ret (results_cell_row rfl _ _ gb113 50 #[.slice Ao57 x121000_1.length co57, .slice Ao60 x121001_1.length co60] (0, 0) _ rfl (by refine blk_put (cs := #[.slice Ao57 x121000_1.length co57, .slice none 0 0]) ?_ 1 _ rfl; refine blk_put (cs := #[.slice none 0 0, .slice none 0 0]) ?_ 0 _ rfl; exact BK113.1) Try.underlying50 rfl (by kernel_rfl)) rfl ?_
        exact ⟨_, _, by rfl, by exact Kd.S_mono (Kd.S_far (p := ⟨gb113, 1, none⟩) (Kd.S_far (p := ⟨gb113, 0, none⟩) (Kd.S_types HO_121000.1 BK113.1 (by decide)) (fun _ hk => hk.2) (.slice Ao57 x121000_1.length co57)) (fun _ hk => hk.2) (.slice Ao60 x121001_1.length co60)) (fun k_ hk e_ => (Kd.S_R HO_121001.1).1 k_ e_.symm hk.1), by exact Kd.S_mono (Kd.S_far (p := ⟨gb113, 1, none⟩) (Kd.S_far (p := ⟨gb113, 0, none⟩) (Kd.S_types HO_121001.1 BK113.1 (by decide)) (fun _ hk => hk.2) (.slice Ao57 x121000_1.length co57)) (fun _ hk => hk.2) (.slice Ao60 x121001_1.length co60)) (fun k_ hk e_ => hk.1 ((Kd.S_R HO_121000.1).1 k_ e_.symm)), by repeat (with_reducible first | exact HB.1 | refine below_set ?_ GE113.1)⟩
    rw [if_neg c3] at H
    exact absurd H (by simp)
  rw [if_neg c2] at H
  exact absurd H (by simp)

end Go.Proofs.Ytecbmcheojolnaa.XA
