import Derived.Test.YtjlljjnkjhdljaaXAx0
import Derived.Test.YtjlljjnkjhdljaaHr
import Derived.Test.YtjlljjnkjhdljaaHa
import Derived.RangeFuncNested
import Derived.RangeFuncBound
import Derived.RangeFuncCalls
import Derived.RangeFuncLeaves
import Derived.Shelf.Abstract
import Derived.OwnWalkIn
import Derived.TacticsInMore
import Derived.LoopNIn
import Derived.LoopIn
namespace Go.Proofs.Ytjlljjnkjhdljaa.XA
open Go.RowKit Go.Shelf Go.Proofs.Ytjlljjnkjhdljaa.Opens Go.Proofs.YtjlljjnkjhdljaaW.PrintWords Go.Proofs.YtjlljjnkjhdljaaW.PrintLast Go.Proofs.YtjlljjnkjhdljaaW.PrintMore
attribute [local go_sem] Oper.semAt_some max2_int min2_int max_two min_two cell_some cell_same
set_option linter.unusedVariables false
set_option linter.unusedSimpArgs false

def lox : List S46 → Int → Int
  | [], n => n
  | c :: cs, n => lox cs (mn n c.f0)
def loy : List S46 → Int → Int
  | [], n => n
  | c :: cs, n => loy cs (mn n c.f1)
def hix : List S46 → Int → Int
  | [], n => n
  | c :: cs, n => hix cs (mx n c.f0)
def arch_template.f (k : Nat) (l0 : List S46) : Option (List S46 × Int) := if 0 < l0.length ∧ l0.length < 1000 then some (l0.map (fun c => ⟨wrap64 (c.f0 - lox l0 (rd_T46 l0 0).f0), wrap64 (c.f1 - loy l0 (rd_T46 l0 0).f1)⟩), wrap64 (hix l0 (rd_T46 l0 0).f0 - lox l0 (rd_T46 l0 0).f0)) else none
theorem arch_template.mono : ∀ a0 k, LeO (arch_template.f k a0) (arch_template.f (k + 1) a0) := fun _ _ => LeO.refl _
theorem lox_snoc (c : S46) : ∀ (l : List S46) (n : Int), lox (l ++ [c]) n = mn (lox l n) c.f0
  | [], _ => rfl
  | _ :: l, _ => lox_snoc c l _
theorem loy_snoc (c : S46) : ∀ (l : List S46) (n : Int), loy (l ++ [c]) n = mn (loy l n) c.f1
  | [], _ => rfl
  | _ :: l, _ => loy_snoc c l _
theorem hix_snoc (c : S46) : ∀ (l : List S46) (n : Int), hix (l ++ [c]) n = mx (hix l n) c.f0
  | [], _ => rfl
  | _ :: l, _ => hix_snoc c l _
theorem take_next (l : List S46) (j : Nat) (h : j < l.length) : l.take (j + 1) = l.take j ++ [rd_T46 l (j : Int)] := by
  rw [List.take_add_one, List.getElem?_eq_getElem h]
  unfold rd_T46
  rw [Int.toNat_natCast, List.getD_eq_getElem?_getD, List.getElem?_eq_getElem h]
  rfl
section
variable {F : Fence} {n : Nat} {P : Program} {ops : Array Oper} {Q : Exit → Act → World → Prop} {md : Region.Mode} {E : List Nat} {S : World → Prop}
theorem Down.step {seen : Array Bool} (h : Down md ops seen) (i : Nat) (hc : (Region.ready md ops seen).contains i = true) : Down md ops (seen.setIfInBounds i true) := h.add (by simpa using hc)
/-- Two may come up. -/
theorem wpCalm_two (i j : Nat) {oi oj : Oper} {k : Nat} {seen : Array Bool} {a : Act} {w : World} (hi : ops[i]? = some oi) (hj : ops[j]? = some oj) (hc : Region.ready md ops seen = [i, j])
    (h1 : ∀ K : Act → World → Prop, (∀ a' w', S w' → wpCalm F n P md ops Q E S k (seen.setIfInBounds i true) a' w' → K a' w') → if Region.wanted oi (yielded ops a.tmps) = true then Oper.wpIn F n P oi a w K Q else (∀ f, oi.about P w a.eval = some f → F.fn f) ∧ K (a.put oi.dst undef) w)
    (h2 : ∀ K : Act → World → Prop, (∀ a' w', S w' → wpCalm F n P md ops Q E S k (seen.setIfInBounds j true) a' w' → K a' w') → if Region.wanted oj (yielded ops a.tmps) = true then Oper.wpIn F n P oj a w K Q else (∀ f, oj.about P w a.eval = some f → F.fn f) ∧ K (a.put oj.dst undef) w) : wpCalm F n P md ops Q E S (k + 1) seen a w := by
  refine ⟨fun h0 => (by rw [hc] at h0; cases h0), fun m hm => ?_⟩
  rw [hc] at hm
  have hm' : m = i ∨ m = j := by simpa using hm
  rcases hm' with rfl | rfl
  · have := h1 (fun a' w' => S w' ∧ wpCalm F n P md ops Q E S k (seen.setIfInBounds m true) a' w') (fun _ _ hS h => ⟨hS, h⟩)
    refine wpOpIn_mono (K := fun a' w' => S w' ∧ wpCalm F n P md ops Q E S k (seen.setIfInBounds m true) a' w') (fun a' w' h' => ⟨.inr h'.1, h'.2⟩) ?_
    unfold wpOpIn
    rw [hi]
    exact this
  · have := h2 (fun a' w' => S w' ∧ wpCalm F n P md ops Q E S k (seen.setIfInBounds m true) a' w') (fun _ _ hS h => ⟨hS, h⟩)
    refine wpOpIn_mono (K := fun a' w' => S w' ∧ wpCalm F n P md ops Q E S k (seen.setIfInBounds m true) a' w') (fun a' w' h' => ⟨.inr h'.1, h'.2⟩) ?_
    unfold wpOpIn
    rw [hj]
    exact this
end

set_option maxRecDepth 100000 in
set_option maxHeartbeats 8000000 in
theorem arch_template.calls (k : Nat) (A0 : Option Addr) (c0 : Nat) (l0 : List S46) (r1 : List S46) (r2 : Int) (w : World) (hr0 : Kd.C k46 w A0 l0.length l0) (hc0 : l0.length ≤ c0) (h : arch_template.f k l0 = some (r1, r2)) :
    Calls Try.prog 48 #[.slice A0 l0.length c0] w fun e w' => ∃ v0_ : Value, e = .returned (.tuple #[v0_, .int .i64 r2]) ∧ Kd.R k46 46 w' w.heap.size (fun _ => True) v0_ r1 ∧ Below w.heap.size w w' := by
  have hp : 0 < l0.length ∧ l0.length < 1000 := by
    refine Classical.byContradiction fun hp => ?_
    simp [arch_template.f, hp] at h
  rw [arch_template.f, if_pos hp] at h
  obtain ⟨hpos, hlen⟩ := hp
  simp only [Option.some.injEq, Prod.mk.injEq] at h
  obtain ⟨hr1, hr2⟩ := h
  obtain ⟨ad, e0, hx0, hx1⟩ := at_T46 hr0 0 (by omega) (by omega)
  subst e0
  simp only [show (0 : Int).toNat = 0 from rfl, Nat.zero_mul, Addr.add_zero'] at hx0 hx1
  refine (callsIn_wide (n := 5)).1 ?_
  refine callsIn_of_wp Try.func48 rfl trivial ?_ rfl
  simp only [Try.ntmps48, List.size_toArray, List.length_cons, List.length_nil, Nat.reduceAdd, Nat.reduceSub, Array.replicate_succ, Array.replicate_zero, List.push_toArray, List.append_toArray, List.nil_append, List.cons_append]
  gi_wp2
  rename_i K0 hK0
  suffices hk : ∀ (b4 b5 : Nat) (W : World), b4 ≠ b5 → w.heap.size ≤ b4 → w.heap.size ≤ b5 → Blk W b4 #[.int .i64 (rd_T46 l0 0).f0, .int .i64 (rd_T46 l0 0).f1] 46 → Blk W b5 #[.int .i64 (rd_T46 l0 0).f0, .int .i64 (rd_T46 l0 0).f1] 46 → Below w.heap.size w W →
      K0 { tmps := (List.toArray ((.slice (some ad) l0.length c0 : Value) :: undef :: (.slice none 0 0 : Value) :: (.int .i64 0 : Value) :: (.pointer (some ⟨b4, 0, none⟩) : Value) :: (.pointer (some ⟨b5, 0, none⟩) : Value) :: undef :: undef :: undef :: undef :: undef :: (.slice (some ad) l0.length c0 : Value) :: (.pointer (some ad) : Value) :: (.agg #[.int .i64 (rd_T46 l0 0).f0, .int .i64 (rd_T46 l0 0).f1] : Value) :: (.slice (some ad) l0.length c0 : Value) :: (.pointer (some ad) : Value) :: (.agg #[.int .i64 (rd_T46 l0 0).f0, .int .i64 (rd_T46 l0 0).f1] : Value) :: undef :: undef :: undef :: undef :: undef :: undef :: undef :: undef :: undef :: undef :: undef :: undef :: undef :: undef :: undef :: undef :: undef :: undef :: undef :: undef :: undef :: undef :: undef :: undef :: undef :: undef :: undef :: undef :: undef :: undef :: undef :: undef :: undef :: undef :: undef :: undef :: undef :: undef :: undef :: undef :: undef :: undef :: undef :: undef :: undef :: undef :: undef :: undef :: undef :: undef :: undef :: List.nil)), defers := [] } W by
    clear hK0
    have z3 : ¬ l0.length = 0 := by omega
    have q0 : (0 < (l0.length : Int)) = True := eq_true (by omega)
    have q1 : (0 < l0.length) = True := eq_true (by omega)
    have hb0 : Below w.heap.size w w.drew := ⟨rfl, rfl, rfl, Nat.le_refl _, fun _ _ => rfl⟩
    refine wpIn_region_calm [9] (fun w' => w'.cell? ad = some (.int .i64 (rd_T46 l0 0).f0) ∧ w'.cell? ⟨ad.block, ad.off + 1, none⟩ = some (.int .i64 (rd_T46 l0 0).f1)) (by kernel_rfl) (fun hd => ?_)
    refine wpCalm_take 0 20 (fun _ => trivial) rfl (by kernel_rfl) hd (fun _ _ _ h => h) ⟨hx0, hx1⟩ ⟨rfl, by rintro w' ⟨h1, h2⟩; go_simp; first | done | with_reducible rfl⟩ (fun hd => ?_)
    simp only [Act.put, List.setIfInBounds_toArray, List.set_cons_zero, List.set_cons_succ]
    refine wpCalm_take 1 20 (fun _ => trivial) rfl (by kernel_rfl) hd (fun _ _ _ h => h) ⟨hx0, hx1⟩ ⟨rfl, by rintro w' ⟨h1, h2⟩; go_simp; first | done | with_reducible rfl⟩ (fun hd => ?_)
    simp only [Act.put, List.setIfInBounds_toArray, List.set_cons_zero, List.set_cons_succ]
    refine wpCalm_take 2 20 (fun _ => trivial) rfl (by kernel_rfl) hd (fun _ _ _ h => h) ⟨hx0, hx1⟩ ⟨rfl, by rintro w' ⟨h1, h2⟩; go_simp; first | done | with_reducible rfl⟩ (fun hd => ?_)
    simp only [Act.put, List.setIfInBounds_toArray, List.set_cons_zero, List.set_cons_succ]
    refine wpCalm_take 3 20 (fun _ => trivial) rfl (by kernel_rfl) hd (fun _ _ _ h => h) ⟨hx0, hx1⟩ ⟨rfl, by rintro w' ⟨h1, h2⟩; go_simp; first | done | with_reducible rfl⟩ (fun hd => ?_)
    simp only [Act.put, List.setIfInBounds_toArray, List.set_cons_zero, List.set_cons_succ]
    refine wpCalm_take 4 20 (fun _ => trivial) rfl (by kernel_rfl) hd (fun _ _ _ h => h) ⟨hx0, hx1⟩ ⟨rfl, by rintro w' ⟨h1, h2⟩; go_simp; first | done | with_reducible rfl⟩ (fun hd => ?_)
    simp only [Act.put, List.setIfInBounds_toArray, List.set_cons_zero, List.set_cons_succ]
    refine wpCalm_take 5 20 (fun _ => trivial) rfl (by kernel_rfl) hd (fun _ _ _ h => h) ⟨hx0, hx1⟩ ⟨rfl, by rintro w' ⟨h1, h2⟩; go_simp; first | done | with_reducible rfl⟩ (fun hd => ?_)
    simp only [Act.put, List.setIfInBounds_toArray, List.set_cons_zero, List.set_cons_succ]
    refine wpCalm_two 6 7 rfl rfl (by kernel_rfl) ?_ ?_
    · intro K hK
      go_simp
      have hb1 := hb0.alloc (Nat.le_refl _) (.cells #[.int .i64 0, .int .i64 0] 46)
      refine hK _ _ ⟨(hb1.cell (World.block_lt_of_cell? w _ hx0)).trans hx0, (hb1.cell (World.block_lt_of_cell? w _ hx1)).trans hx1⟩ ?_
      clear hK K
      try simp only [Act.put, List.setIfInBounds_toArray, List.set_cons_zero, List.set_cons_succ]
      refine wpCalm_next 7 rfl (by kernel_rfl) (fun K hK => ?_)
      go_simp
      have hb2 := hb1.alloc (by simp) (.cells #[.int .i64 0, .int .i64 0] 46)
      refine hK _ _ ⟨(hb2.cell (World.block_lt_of_cell? w _ hx0)).trans hx0, (hb2.cell (World.block_lt_of_cell? w _ hx1)).trans hx1⟩ ?_
      clear hK K
      try simp only [Act.put, List.setIfInBounds_toArray, List.set_cons_zero, List.set_cons_succ]
      refine wpCalm_next 8 rfl (by kernel_rfl) (fun K hK => ?_)
      go_simp
      have hb3 : Below w.heap.size w ((w.alloc (.cells #[.int .i64 (rd_T46 l0 0).f0, .int .i64 (rd_T46 l0 0).f1] 46)).alloc (.cells #[.int .i64 0, .int .i64 0] 46)).drew := below_drew1 (((Below.refl _ w).alloc (Nat.le_refl _) _).alloc (by simp) _)
      refine hK _ _ ⟨(hb3.cell (World.block_lt_of_cell? w _ hx0)).trans hx0, (hb3.cell (World.block_lt_of_cell? w _ hx1)).trans hx1⟩ ?_
      clear hK K
      try simp only [Act.put, List.setIfInBounds_toArray, List.set_cons_zero, List.set_cons_succ]
      refine wpCalm_late 9 rfl (by kernel_rfl) rfl (fun K hK => ?_)
      go_simp
      refine hK _ _ ?_
      clear hK K
      try simp only [Act.put, List.setIfInBounds_toArray, List.set_cons_zero, List.set_cons_succ]
      refine wpCalm_done (by kernel_rfl) ?_
      refine hk w.heap.size (w.heap.size + 1) _ (by omega) (by omega) (by omega) (blk_alloc (World.alloc_heap_new w (.cells #[.int .i64 (rd_T46 l0 0).f0, .int .i64 (rd_T46 l0 0).f1] 46)) _) (by have := World.alloc_heap_new (w.alloc (.cells #[.int .i64 (rd_T46 l0 0).f0, .int .i64 (rd_T46 l0 0).f1] 46)) (.cells #[.int .i64 (rd_T46 l0 0).f0, .int .i64 (rd_T46 l0 0).f1] 46); rwa [World.size_alloc] at this) ?_
      exact below_drew1 (((Below.refl _ w).alloc (Nat.le_refl _) _).alloc (by simp) _)
    · intro K hK
      go_simp
      have hb1 := hb0.alloc (Nat.le_refl _) (.cells #[.int .i64 0, .int .i64 0] 46)
      refine hK _ _ ⟨(hb1.cell (World.block_lt_of_cell? w _ hx0)).trans hx0, (hb1.cell (World.block_lt_of_cell? w _ hx1)).trans hx1⟩ ?_
      clear hK K
      try simp only [Act.put, List.setIfInBounds_toArray, List.set_cons_zero, List.set_cons_succ]
      refine wpCalm_next 6 rfl (by kernel_rfl) (fun K hK => ?_)
      go_simp
      have hb2 := hb1.alloc (by simp) (.cells #[.int .i64 0, .int .i64 0] 46)
      refine hK _ _ ⟨(hb2.cell (World.block_lt_of_cell? w _ hx0)).trans hx0, (hb2.cell (World.block_lt_of_cell? w _ hx1)).trans hx1⟩ ?_
      clear hK K
      try simp only [Act.put, List.setIfInBounds_toArray, List.set_cons_zero, List.set_cons_succ]
      refine wpCalm_next 8 rfl (by kernel_rfl) (fun K hK => ?_)
      go_simp
      have hb3 : Below w.heap.size w ((w.alloc (.cells #[.int .i64 0, .int .i64 0] 46)).alloc (.cells #[.int .i64 (rd_T46 l0 0).f0, .int .i64 (rd_T46 l0 0).f1] 46)).drew := below_drew1 (((Below.refl _ w).alloc (Nat.le_refl _) _).alloc (by simp) _)
      refine hK _ _ ⟨(hb3.cell (World.block_lt_of_cell? w _ hx0)).trans hx0, (hb3.cell (World.block_lt_of_cell? w _ hx1)).trans hx1⟩ ?_
      clear hK K
      try simp only [Act.put, List.setIfInBounds_toArray, List.set_cons_zero, List.set_cons_succ]
      refine wpCalm_late 9 rfl (by kernel_rfl) rfl (fun K hK => ?_)
      go_simp
      refine hK _ _ ?_
      clear hK K
      try simp only [Act.put, List.setIfInBounds_toArray, List.set_cons_zero, List.set_cons_succ]
      refine wpCalm_done (by kernel_rfl) ?_
      refine hk (w.heap.size + 1) w.heap.size _ (by omega) (by omega) (by omega) (by have := World.alloc_heap_new (w.alloc (.cells #[.int .i64 (rd_T46 l0 0).f0, .int .i64 (rd_T46 l0 0).f1] 46)) (.cells #[.int .i64 (rd_T46 l0 0).f0, .int .i64 (rd_T46 l0 0).f1] 46); rwa [World.size_alloc] at this) (blk_alloc (World.alloc_heap_new w (.cells #[.int .i64 (rd_T46 l0 0).f0, .int .i64 (rd_T46 l0 0).f1] 46)) _) ?_
      exact below_drew1 (((Below.refl _ w).alloc (Nat.le_refl _) _).alloc (by simp) _)
  intro b4 b5 W hne h4 h5 B4 B5 hB
  refine hK0 _ _ ?_
  clear hK0
  gi_wp2
  gi_loopw [19] (fun i wr => ∃ (j : Nat) (y : Int), j ≤ l0.length ∧ i = .int .i64 j ∧ Blk wr b4 #[.int .i64 (lox (l0.take j) (rd_T46 l0 0).f0), .int .i64 (loy (l0.take j) (rd_T46 l0 0).f1)] 46 ∧ Blk wr b5 #[.int .i64 (hix (l0.take j) (rd_T46 l0 0).f0), .int .i64 y] 46 ∧ Below w.heap.size w wr)
    (fun i _ => l0.length - (intOf i).toNat)
  case atStart => exact ⟨0, _, Nat.zero_le _, rfl, B4, B5, hB⟩
  case round =>
    obtain ⟨j, y, hj, rfl, C4, C5, hB1⟩ := hrel
    by_cases hlt : j < l0.length
    · obtain ⟨ad2, e1, gx0, gx1⟩ := at_T46 hr0 (j : Int) (by omega) (by omega)
      cases e1
      replace gx0 := (hB1.cell (World.block_lt_of_cell? w _ gx0)).trans gx0
      replace gx1 := (hB1.cell (World.block_lt_of_cell? w _ gx1)).trans gx1
      rw [Int.toNat_natCast] at gx0 gx1
      have s4 : b4 < wr.heap.size := (Array.getElem?_eq_some_iff.1 C4).1
      have s5 : b5 < wr.heap.size := (Array.getElem?_eq_some_iff.1 C5).1
      gi_wp2
      have D4 := blk_alloc C4 (.cells #[.int .i64 (rd_T46 l0 j).f0, .int .i64 (rd_T46 l0 j).f1] 46)
      have D5 := blk_alloc C5 (.cells #[.int .i64 (rd_T46 l0 j).f0, .int .i64 (rd_T46 l0 j).f1] 46)
      have D7 : Blk (wr.alloc (.cells #[.int .i64 (rd_T46 l0 j).f0, .int .i64 (rd_T46 l0 j).f1] 46)) wr.heap.size #[.int .i64 (rd_T46 l0 j).f0, .int .i64 (rd_T46 l0 j).f1] 46 := World.alloc_heap_new wr _
      have hB2 := hB1.alloc hB1.size (.cells #[.int .i64 (rd_T46 l0 j).f0, .int .i64 (rd_T46 l0 j).f1] 46)
      have hsz : (wr.alloc (.cells #[.int .i64 (rd_T46 l0 j).f0, .int .i64 (rd_T46 l0 j).f1] 46)).heap.size = wr.heap.size + 1 := by simp
      obtain ⟨X, hX⟩ : ∃ X, wr.alloc (.cells #[.int .i64 (rd_T46 l0 j).f0, .int .i64 (rd_T46 l0 j).f1] 46) = X := ⟨_, rfl⟩
      rw [hX] at D4 D5 D7 hB2 hsz ⊢
      clear hX gx0 gx1 C4 C5
      obtain ⟨b7, hb7⟩ : ∃ b, wr.heap.size = b := ⟨_, rfl⟩
      rw [hb7] at D7 s4 s5 hsz ⊢
      clear hb7
      obtain ⟨p0, hp0⟩ : ∃ p, (rd_T46 l0 j).f0 = p := ⟨_, rfl⟩
      obtain ⟨p1, hp1⟩ : ∃ p, (rd_T46 l0 j).f1 = p := ⟨_, rfl⟩
      obtain ⟨lx, hlx⟩ : ∃ p, lox (l0.take j) (rd_T46 l0 0).f0 = p := ⟨_, rfl⟩
      obtain ⟨ly, hly⟩ : ∃ p, loy (l0.take j) (rd_T46 l0 0).f1 = p := ⟨_, rfl⟩
      obtain ⟨hx, hhx⟩ : ∃ p, hix (l0.take j) (rd_T46 l0 0).f0 = p := ⟨_, rfl⟩
      have HP0 := Aside0.mk hp0
      have HP1 := Aside0.mk hp1
      have HLX := Aside0.mk hlx
      have HLY := Aside0.mk hly
      have HHX := Aside0.mk hhx
      rw [hp0, hp1] at D7 ⊢
      rw [hlx, hly] at D4
      rw [hhx] at D5
      clear hp0 hp1 hlx hly hhx
      have c40 : X.cell? ⟨b4, 0, none⟩ = some (.int .i64 lx) := (blk_cell D4 0).trans rfl
      have c41 : X.cell? ⟨b4, 1, none⟩ = some (.int .i64 ly) := (blk_cell D4 1).trans rfl
      have c50 : X.cell? ⟨b5, 0, none⟩ = some (.int .i64 hx) := (blk_cell D5 0).trans rfl
      have c70 : X.cell? ⟨b7, 0, none⟩ = some (.int .i64 p0) := (blk_cell D7 0).trans rfl
      have c71 : X.cell? ⟨b7, 1, none⟩ = some (.int .i64 p1) := (blk_cell D7 1).trans rfl
      have f40 := blk_frozen D4 0
      have f41 := blk_frozen D4 1
      have f50 := blk_frozen D5 0
      have f51 := blk_frozen D5 1
      have n45 : (b4 = b5) = False := eq_false hne
      have n54 : (b5 = b4) = False := eq_false (Ne.symm hne)
      have n47 : (b4 = b7) = False := eq_false (by omega)
      have n74 : (b7 = b4) = False := eq_false (by omega)
      have n57 : (b5 = b7) = False := eq_false (by omega)
      have n75 : (b7 = b5) = False := eq_false (by omega)
      refine wpIn_region_calm [18] (fun w' => w'.cell? ⟨b5, 0, none⟩ = some (.int .i64 hx) ∧ w'.cell? ⟨b7, 0, none⟩ = some (.int .i64 p0) ∧ w'.cell? ⟨b7, 1, none⟩ = some (.int .i64 p1)) (by kernel_rfl) (fun hd => ?_)
      refine wpCalm_take 0 30 (fun _ => trivial) rfl (by kernel_rfl) hd (fun _ _ _ h => h) ⟨c50, c70, c71⟩ ⟨rfl, by rintro w' ⟨h1, h2, h3⟩; go_simp; first | done | with_reducible rfl⟩ (fun hd => ?_)
      simp only [Act.put, List.setIfInBounds_toArray, List.set_cons_zero, List.set_cons_succ]
      refine wpCalm_take 2 30 (fun _ => trivial) rfl (by kernel_rfl) hd (fun _ _ _ h => h) ⟨c50, c70, c71⟩ ⟨rfl, by rintro w' ⟨h1, h2, h3⟩; go_simp; first | done | with_reducible rfl⟩ (fun hd => ?_)
      simp only [Act.put, List.setIfInBounds_toArray, List.set_cons_zero, List.set_cons_succ]
      refine wpCalm_take 5 30 (fun _ => trivial) rfl (by kernel_rfl) hd (fun _ _ _ h => h) ⟨c50, c70, c71⟩ ⟨rfl, by rintro w' ⟨h1, h2, h3⟩; go_simp; first | done | with_reducible rfl⟩ (fun hd => ?_)
      simp only [Act.put, List.setIfInBounds_toArray, List.set_cons_zero, List.set_cons_succ]
      refine wpCalm_take 7 30 (fun _ => trivial) rfl (by kernel_rfl) hd (fun _ _ _ h => h) ⟨c50, c70, c71⟩ ⟨rfl, by rintro w' ⟨h1, h2, h3⟩; go_simp; first | done | with_reducible rfl⟩ (fun hd => ?_)
      simp only [Act.put, List.setIfInBounds_toArray, List.set_cons_zero, List.set_cons_succ]
      refine wpCalm_take 11 30 (fun _ => trivial) rfl (by kernel_rfl) hd (fun _ _ _ h => h) ⟨c50, c70, c71⟩ ⟨rfl, by rintro w' ⟨h1, h2, h3⟩; go_simp; first | done | with_reducible rfl⟩ (fun hd => ?_)
      simp only [Act.put, List.setIfInBounds_toArray, List.set_cons_zero, List.set_cons_succ]
      refine wpCalm_take 13 30 (fun _ => trivial) rfl (by kernel_rfl) hd (fun _ _ _ h => h) ⟨c50, c70, c71⟩ ⟨rfl, by rintro w' ⟨h1, h2, h3⟩; go_simp; first | done | with_reducible rfl⟩ (fun hd => ?_)
      simp only [Act.put, List.setIfInBounds_toArray, List.set_cons_zero, List.set_cons_succ]
      refine wpCalm_take 3 30 (fun _ => trivial) rfl (by kernel_rfl) hd (fun _ _ _ h => h) ⟨c50, c70, c71⟩ ⟨rfl, by rintro w' ⟨h1, h2, h3⟩; go_simp; first | done | with_reducible rfl⟩ (fun hd => ?_)
      simp only [Act.put, List.setIfInBounds_toArray, List.set_cons_zero, List.set_cons_succ]
      refine wpCalm_take 8 30 (fun _ => trivial) rfl (by kernel_rfl) hd (fun _ _ _ h => h) ⟨c50, c70, c71⟩ ⟨rfl, by rintro w' ⟨h1, h2, h3⟩; go_simp; first | done | with_reducible rfl⟩ (fun hd => ?_)
      simp only [Act.put, List.setIfInBounds_toArray, List.set_cons_zero, List.set_cons_succ]
      refine wpCalm_take 14 30 (fun _ => trivial) rfl (by kernel_rfl) hd (fun _ _ _ h => h) ⟨c50, c70, c71⟩ ⟨rfl, by rintro w' ⟨h1, h2, h3⟩; go_simp; first | done | with_reducible rfl⟩ (fun hd => ?_)
      simp only [Act.put, List.setIfInBounds_toArray, List.set_cons_zero, List.set_cons_succ]
      refine wpCalm_take 12 30 (fun _ => trivial) rfl (by kernel_rfl) hd (fun _ _ _ h => h) ⟨c50, c70, c71⟩ ⟨rfl, by rintro w' ⟨h1, h2, h3⟩; go_simp; first | done | with_reducible rfl⟩ (fun hd => ?_)
      simp only [Act.put, List.setIfInBounds_toArray, List.set_cons_zero, List.set_cons_succ]
      refine wpCalm_take 15 30 (fun _ => trivial) rfl (by kernel_rfl) hd (fun _ _ _ h => h) ⟨c50, c70, c71⟩ ⟨rfl, by rintro w' ⟨h1, h2, h3⟩; go_simp; first | done | with_reducible rfl⟩ (fun hd => ?_)
      simp only [Act.put, List.setIfInBounds_toArray, List.set_cons_zero, List.set_cons_succ]
      refine wpCalm_take 16 30 (fun _ => trivial) rfl (by kernel_rfl) hd (fun _ _ _ h => h) ⟨c50, c70, c71⟩ ⟨rfl, by rintro w' ⟨h1, h2, h3⟩; go_simp; first | done | with_reducible rfl⟩ (fun hd => ?_)
      simp only [Act.put, List.setIfInBounds_toArray, List.set_cons_zero, List.set_cons_succ]
      refine wpCalm_two 1 6 rfl rfl (by kernel_rfl) ?_ ?_
      · intro K hK
        go_simp
        refine hK _ _ ⟨c50, c70, c71⟩ ?_
        clear hK K
        try simp only [Act.put, List.setIfInBounds_toArray, List.set_cons_zero, List.set_cons_succ]
        replace hd := Down.step hd 1 (by kernel_rfl)
        refine wpCalm_take 4 30 (fun _ => trivial) rfl (by kernel_rfl) hd (fun _ _ _ h => h) ⟨c50, c70, c71⟩ ⟨rfl, by rintro w' ⟨h1, h2, h3⟩; go_simp; first | done | with_reducible rfl⟩ (fun hd => ?_)
        simp only [Act.put, List.setIfInBounds_toArray, List.set_cons_zero, List.set_cons_succ]
        refine wpCalm_next 6 rfl (by kernel_rfl) (fun K hK => ?_)
        go_simp
        refine hK _ _ ⟨c50, c70, c71⟩ ?_
        clear hK K
        try simp only [Act.put, List.setIfInBounds_toArray, List.set_cons_zero, List.set_cons_succ]
        replace hd := Down.step hd 6 (by kernel_rfl)
        refine wpCalm_take 9 30 (fun _ => trivial) rfl (by kernel_rfl) hd (fun _ _ _ h => h) ⟨c50, c70, c71⟩ ⟨rfl, by rintro w' ⟨h1, h2, h3⟩; go_simp; first | done | with_reducible rfl⟩ (fun hd => ?_)
        simp only [Act.put, List.setIfInBounds_toArray, List.set_cons_zero, List.set_cons_succ]
        refine wpCalm_take 10 30 (fun _ => trivial) rfl (by kernel_rfl) hd (fun _ _ _ h => h) ⟨c50, c70, c71⟩ ⟨rfl, by rintro w' ⟨h1, h2, h3⟩; go_simp; first | done | with_reducible rfl⟩ (fun hd => ?_)
        simp only [Act.put, List.setIfInBounds_toArray, List.set_cons_zero, List.set_cons_succ]
        refine wpCalm_next 17 rfl (by kernel_rfl) (fun K hK => ?_)
        go_simp
        have E4 : Blk ((X.setCell ⟨b4, 0, none⟩ (.int .i64 (if p0 < lx then p0 else lx))).setCell ⟨b4, 1, none⟩ (.int .i64 (if p1 < ly then p1 else ly))).drew b4 #[.int .i64 (if p0 < lx then p0 else lx), .int .i64 (if p1 < ly then p1 else ly)] 46 := blk_put (blk_put D4 0 _ rfl) 1 _ rfl
        have E5 : Blk ((X.setCell ⟨b4, 0, none⟩ (.int .i64 (if p0 < lx then p0 else lx))).setCell ⟨b4, 1, none⟩ (.int .i64 (if p1 < ly then p1 else ly))).drew b5 #[.int .i64 hx, .int .i64 y] 46 := blk_far (blk_far D5 (Ne.symm hne) _) (Ne.symm hne) _
        have E7 : Blk ((X.setCell ⟨b4, 0, none⟩ (.int .i64 (if p0 < lx then p0 else lx))).setCell ⟨b4, 1, none⟩ (.int .i64 (if p1 < ly then p1 else ly))).drew b7 #[.int .i64 p0, .int .i64 p1] 46 := blk_far (blk_far D7 (show b7 ≠ b4 by omega) _) (show b7 ≠ b4 by omega) _
        have hBY : Below w.heap.size w ((X.setCell ⟨b4, 0, none⟩ (.int .i64 (if p0 < lx then p0 else lx))).setCell ⟨b4, 1, none⟩ (.int .i64 (if p1 < ly then p1 else ly))).drew := below_drew1 ((hB2.setCell (p := ⟨b4, 0, none⟩) h4 _).setCell (p := ⟨b4, 1, none⟩) h4 _)
        have e50 := (blk_cell E5 0).trans (show _ = some (Value.int .i64 hx) from rfl)
        have e70 := (blk_cell E7 0).trans (show _ = some (Value.int .i64 p0) from rfl)
        have e71 := (blk_cell E7 1).trans (show _ = some (Value.int .i64 p1) from rfl)
        refine hK _ _ ⟨e50, e70, e71⟩ ?_
        clear hK K
        clear c40 c41 c50 c70 c71 f40 f41 f50 f51 D4 D5 D7 hB2
        generalize ((X.setCell ⟨b4, 0, none⟩ (.int .i64 (if p0 < lx then p0 else lx))).setCell ⟨b4, 1, none⟩ (.int .i64 (if p1 < ly then p1 else ly))).drew = Y at E4 E5 E7 hBY e50 e70 e71 ⊢
        have f50 := blk_frozen E5 0
        have f51 := blk_frozen E5 1
        have e51 := (blk_cell E5 1).trans (show _ = some (Value.int .i64 y) from rfl)
        try simp only [Act.put, List.setIfInBounds_toArray, List.set_cons_zero, List.set_cons_succ]
        refine wpCalm_late 18 rfl (by kernel_rfl) rfl (fun K hK => ?_)
        go_simp
        refine hK _ _ ?_
        clear hK K
        refine wpCalm_done (by kernel_rfl) ?_
        have G4 := blk_far (blk_far E4 (p := ⟨b5, 0, none⟩) hne (.int .i64 (if hx < p0 then p0 else hx))) (p := ⟨b5, 1, none⟩) hne (.int .i64 0)
        have G5 : Blk ((Y.setCell ⟨b5, 0, none⟩ (.int .i64 (if hx < p0 then p0 else hx))).setCell ⟨b5, 1, none⟩ (.int .i64 0)) b5 #[.int .i64 (if hx < p0 then p0 else hx), .int .i64 0] 46 := blk_put (blk_put E5 0 _ rfl) 1 _ rfl
        have hBZ : Below w.heap.size w ((Y.setCell ⟨b5, 0, none⟩ (.int .i64 (if hx < p0 then p0 else hx))).setCell ⟨b5, 1, none⟩ (.int .i64 0)) := (hBY.setCell (p := ⟨b5, 0, none⟩) h5 _).setCell (p := ⟨b5, 1, none⟩) h5 _
        generalize (Y.setCell ⟨b5, 0, none⟩ (.int .i64 (if hx < p0 then p0 else hx))).setCell ⟨b5, 1, none⟩ (.int .i64 0) = Z at G4 G5 hBZ ⊢
        have t1 : lox (l0.take (j + 1)) (rd_T46 l0 0).f0 = (if p0 < lx then p0 else lx) := by rw [take_next l0 j hlt, lox_snoc, HLX.out, HP0.out]; rfl
        have t2 : loy (l0.take (j + 1)) (rd_T46 l0 0).f1 = (if p1 < ly then p1 else ly) := by rw [take_next l0 j hlt, loy_snoc, HLY.out, HP1.out]; rfl
        have t3 : hix (l0.take (j + 1)) (rd_T46 l0 0).f0 = (if hx < p0 then p0 else hx) := by rw [take_next l0 j hlt, hix_snoc, HHX.out, HP0.out]; rfl
        rw [← t1, ← t2] at G4
        rw [← t3] at G5
        have HG4 := Aside0.mk G4
        have HG5 := Aside0.mk G5
        have HBZ := Aside0.mk hBZ
        clear G4 G5 hBZ t1 t2 t3 e50 e70 e71 f50 f51 e51
        gi_wp2
        go_roundw
        case rel => exact ⟨j + 1, 0, by omega, by first | (simp; done) | (rw [wrap_at _ (by omega) (by omega)]; rfl), HG4.out, HG5.out, HBZ.out⟩
        case measure => simp [intOf]; omega
      · intro K hK
        go_simp
        refine hK _ _ ⟨c50, c70, c71⟩ ?_
        clear hK K
        try simp only [Act.put, List.setIfInBounds_toArray, List.set_cons_zero, List.set_cons_succ]
        replace hd := Down.step hd 6 (by kernel_rfl)
        refine wpCalm_take 9 30 (fun _ => trivial) rfl (by kernel_rfl) hd (fun _ _ _ h => h) ⟨c50, c70, c71⟩ ⟨rfl, by rintro w' ⟨h1, h2, h3⟩; go_simp; first | done | with_reducible rfl⟩ (fun hd => ?_)
        simp only [Act.put, List.setIfInBounds_toArray, List.set_cons_zero, List.set_cons_succ]
        refine wpCalm_next 1 rfl (by kernel_rfl) (fun K hK => ?_)
        go_simp
        refine hK _ _ ⟨c50, c70, c71⟩ ?_
        clear hK K
        try simp only [Act.put, List.setIfInBounds_toArray, List.set_cons_zero, List.set_cons_succ]
        replace hd := Down.step hd 1 (by kernel_rfl)
        refine wpCalm_take 4 30 (fun _ => trivial) rfl (by kernel_rfl) hd (fun _ _ _ h => h) ⟨c50, c70, c71⟩ ⟨rfl, by rintro w' ⟨h1, h2, h3⟩; go_simp; first | done | with_reducible rfl⟩ (fun hd => ?_)
        simp only [Act.put, List.setIfInBounds_toArray, List.set_cons_zero, List.set_cons_succ]
        refine wpCalm_take 10 30 (fun _ => trivial) rfl (by kernel_rfl) hd (fun _ _ _ h => h) ⟨c50, c70, c71⟩ ⟨rfl, by rintro w' ⟨h1, h2, h3⟩; go_simp; first | done | with_reducible rfl⟩ (fun hd => ?_)
        simp only [Act.put, List.setIfInBounds_toArray, List.set_cons_zero, List.set_cons_succ]
        refine wpCalm_next 17 rfl (by kernel_rfl) (fun K hK => ?_)
        go_simp
        have E4 : Blk ((X.setCell ⟨b4, 0, none⟩ (.int .i64 (if p0 < lx then p0 else lx))).setCell ⟨b4, 1, none⟩ (.int .i64 (if p1 < ly then p1 else ly))).drew b4 #[.int .i64 (if p0 < lx then p0 else lx), .int .i64 (if p1 < ly then p1 else ly)] 46 := blk_put (blk_put D4 0 _ rfl) 1 _ rfl
        have E5 : Blk ((X.setCell ⟨b4, 0, none⟩ (.int .i64 (if p0 < lx then p0 else lx))).setCell ⟨b4, 1, none⟩ (.int .i64 (if p1 < ly then p1 else ly))).drew b5 #[.int .i64 hx, .int .i64 y] 46 := blk_far (blk_far D5 (Ne.symm hne) _) (Ne.symm hne) _
        have E7 : Blk ((X.setCell ⟨b4, 0, none⟩ (.int .i64 (if p0 < lx then p0 else lx))).setCell ⟨b4, 1, none⟩ (.int .i64 (if p1 < ly then p1 else ly))).drew b7 #[.int .i64 p0, .int .i64 p1] 46 := blk_far (blk_far D7 (show b7 ≠ b4 by omega) _) (show b7 ≠ b4 by omega) _
        have hBY : Below w.heap.size w ((X.setCell ⟨b4, 0, none⟩ (.int .i64 (if p0 < lx then p0 else lx))).setCell ⟨b4, 1, none⟩ (.int .i64 (if p1 < ly then p1 else ly))).drew := below_drew1 ((hB2.setCell (p := ⟨b4, 0, none⟩) h4 _).setCell (p := ⟨b4, 1, none⟩) h4 _)
        have e50 := (blk_cell E5 0).trans (show _ = some (Value.int .i64 hx) from rfl)
        have e70 := (blk_cell E7 0).trans (show _ = some (Value.int .i64 p0) from rfl)
        have e71 := (blk_cell E7 1).trans (show _ = some (Value.int .i64 p1) from rfl)
        refine hK _ _ ⟨e50, e70, e71⟩ ?_
        clear hK K
        clear c40 c41 c50 c70 c71 f40 f41 f50 f51 D4 D5 D7 hB2
        generalize ((X.setCell ⟨b4, 0, none⟩ (.int .i64 (if p0 < lx then p0 else lx))).setCell ⟨b4, 1, none⟩ (.int .i64 (if p1 < ly then p1 else ly))).drew = Y at E4 E5 E7 hBY e50 e70 e71 ⊢
        have f50 := blk_frozen E5 0
        have f51 := blk_frozen E5 1
        have e51 := (blk_cell E5 1).trans (show _ = some (Value.int .i64 y) from rfl)
        try simp only [Act.put, List.setIfInBounds_toArray, List.set_cons_zero, List.set_cons_succ]
        refine wpCalm_late 18 rfl (by kernel_rfl) rfl (fun K hK => ?_)
        go_simp
        refine hK _ _ ?_
        clear hK K
        refine wpCalm_done (by kernel_rfl) ?_
        have G4 := blk_far (blk_far E4 (p := ⟨b5, 0, none⟩) hne (.int .i64 (if hx < p0 then p0 else hx))) (p := ⟨b5, 1, none⟩) hne (.int .i64 0)
        have G5 : Blk ((Y.setCell ⟨b5, 0, none⟩ (.int .i64 (if hx < p0 then p0 else hx))).setCell ⟨b5, 1, none⟩ (.int .i64 0)) b5 #[.int .i64 (if hx < p0 then p0 else hx), .int .i64 0] 46 := blk_put (blk_put E5 0 _ rfl) 1 _ rfl
        have hBZ : Below w.heap.size w ((Y.setCell ⟨b5, 0, none⟩ (.int .i64 (if hx < p0 then p0 else hx))).setCell ⟨b5, 1, none⟩ (.int .i64 0)) := (hBY.setCell (p := ⟨b5, 0, none⟩) h5 _).setCell (p := ⟨b5, 1, none⟩) h5 _
        generalize (Y.setCell ⟨b5, 0, none⟩ (.int .i64 (if hx < p0 then p0 else hx))).setCell ⟨b5, 1, none⟩ (.int .i64 0) = Z at G4 G5 hBZ ⊢
        have t1 : lox (l0.take (j + 1)) (rd_T46 l0 0).f0 = (if p0 < lx then p0 else lx) := by rw [take_next l0 j hlt, lox_snoc, HLX.out, HP0.out]; rfl
        have t2 : loy (l0.take (j + 1)) (rd_T46 l0 0).f1 = (if p1 < ly then p1 else ly) := by rw [take_next l0 j hlt, loy_snoc, HLY.out, HP1.out]; rfl
        have t3 : hix (l0.take (j + 1)) (rd_T46 l0 0).f0 = (if hx < p0 then p0 else hx) := by rw [take_next l0 j hlt, hix_snoc, HHX.out, HP0.out]; rfl
        rw [← t1, ← t2] at G4
        rw [← t3] at G5
        have HG4 := Aside0.mk G4
        have HG5 := Aside0.mk G5
        have HBZ := Aside0.mk hBZ
        clear G4 G5 hBZ t1 t2 t3 e50 e70 e71 f50 f51 e51
        gi_wp2
        go_roundw
        case rel => exact ⟨j + 1, 0, by omega, by first | (simp; done) | (rw [wrap_at _ (by omega) (by omega)]; rfl), HG4.out, HG5.out, HBZ.out⟩
        case measure => simp [intOf]; omega
    · obtain rfl : j = l0.length := by omega
      clear hx0 hx1 B4 B5 hB
      have s4 : b4 < wr.heap.size := (Array.getElem?_eq_some_iff.1 C4).1
      have s5 : b5 < wr.heap.size := (Array.getElem?_eq_some_iff.1 C5).1
      rw [List.take_length] at C4 C5
      obtain ⟨lx, hlx⟩ : ∃ p, lox l0 (rd_T46 l0 0).f0 = p := ⟨_, rfl⟩
      obtain ⟨ly, hly⟩ : ∃ p, loy l0 (rd_T46 l0 0).f1 = p := ⟨_, rfl⟩
      obtain ⟨hx, hhx⟩ : ∃ p, hix l0 (rd_T46 l0 0).f0 = p := ⟨_, rfl⟩
      rw [hlx, hly] at C4
      rw [hhx] at C5
      rw [hlx, hly] at hr1
      rw [hlx, hhx] at hr2
      clear hlx hly hhx
      obtain ⟨WL, hWL⟩ : ∃ W, wr = W := ⟨_, rfl⟩
      rw [hWL] at C4 C5 s4 s5 hB1 ⊢
      clear hWL
      obtain ⟨B0, hB0⟩ : ∃ B, WL.heap.size = B := ⟨_, rfl⟩
      have hBL0 : Below B0 WL WL := Below.refl _ _
      gi_wp2
      gi_loopw [8, 43] (fun o i wr => ∃ (j : Nat), j ≤ l0.length ∧ i = .int .i64 j ∧ Kd.R k46 46 wr B0 (fun _ => True) o ((l0.take j).map (fun c => ⟨wrap64 (c.f0 - lx), wrap64 (c.f1 - ly)⟩)) ∧ Below B0 WL wr)
        (fun _ i _ => l0.length - (intOf i).toNat)
      case atStart => exact ⟨0, Nat.zero_le _, rfl, Kd.R_nil _ _ _ _ _, hBL0⟩
      case round =>
        obtain ⟨j, hj, rfl, hR, hBL⟩ := hrel
        have hBw : Below w.heap.size w wr := hB1.trans (hBL.mono (by have := hB1.size; omega))
        have C4r : Blk wr b4 #[.int .i64 lx, .int .i64 ly] 46 := (hBL.block b4 (by omega)).trans C4
        have C5r : Blk wr b5 #[.int .i64 hx, .int .i64 _] 46 := (hBL.block b5 (by omega)).trans C5
        have hsr := hBL.size
        by_cases hlt : j < l0.length
        · obtain ⟨ad2, e1, gx0, gx1⟩ := at_T46 hr0 (j : Int) (by omega) (by omega)
          cases e1
          replace gx0 := (hBw.cell (World.block_lt_of_cell? w _ gx0)).trans gx0
          replace gx1 := (hBw.cell (World.block_lt_of_cell? w _ gx1)).trans gx1
          rw [Int.toNat_natCast] at gx0 gx1
          have c40 : wr.cell? ⟨b4, 0, none⟩ = some (.int .i64 lx) := (blk_cell C4r 0).trans rfl
          have c41 : wr.cell? ⟨b4, 1, none⟩ = some (.int .i64 ly) := (blk_cell C4r 1).trans rfl
          have l4 : b4 < wr.heap.size := by omega
          have HR := Aside0.mk hR
          have HBL := Aside0.mk hBL
          have HBS := Aside0.mk hB0
          clear hR hB0
          gi_wp2_with (gi_at_builtin; refine wpListIn_append_R k46 (w0 := WL) B0 (fun _ => trivial) rfl (.tmp 47) (.tmp 59) 38 46 (.agg #[(.int .i64 0), (.int .i64 0)]) 16 rfl Try.underlying38 info46 rfl (by decide) (by omega) u8 ((l0.take j).map (fun c => (⟨wrap64 (c.f0 - lx), wrap64 (c.f1 - ly)⟩ : S46))) ⟨wrap64 ((rd_T46 l0 j).f0 - lx), wrap64 ((rd_T46 l0 j).f1 - ly)⟩ [.int .i64 (wrap64 ((rd_T46 l0 j).f0 - lx)), .int .i64 (wrap64 ((rd_T46 l0 j).f1 - ly))] (fun _ => True) (fun _ => False) rfl (by rw [World.size_alloc]; rfl) ?aP (fun _ hk => hk.elim) ?aF ?aO ?aB ?aS ?aL ?_; (case aP => exact k46_mkM _ _ _ _); (case aF => exact (fun _ _ => trivial)); (case aO => exact Kd.R_alloc HR.out _); (case aB => exact HBL.out.alloc (by rw [← HBS.out]; exact HBL.out.size) _); (case aS => have := HBS.out; simp; omega); (case aL => simp; omega); intro v1 w1 hR1 hB1n)
          go_roundw
          case rel => exact ⟨j + 1, by omega, by first | (simp; done) | (rw [wrap_at _ (by omega) (by omega)]; rfl), by rw [take_next l0 j hlt, List.map_append]; exact hR1, hB1n⟩
          case measure => simp [intOf]; omega
        · obtain rfl : j = l0.length := by omega
          rw [List.take_length, hr1] at hR
          have c40 : wr.cell? ⟨b4, 0, none⟩ = some (.int .i64 lx) := (blk_cell C4r 0).trans rfl
          have c50 : wr.cell? ⟨b5, 0, none⟩ = some (.int .i64 hx) := (blk_cell C5r 0).trans rfl
          have hw : wrap64 (hx - lx) = r2 := hr2
          have HR := Aside0.mk hR
          have HBS := Aside0.mk hB0
          clear hR hB0 hr1
          gi_wp2
          refine wpIn_region_calm [] (fun w' => w' = wr.drew) (by kernel_rfl) (fun hd => ?_)
          refine wpCalm_take 0 20 (fun _ => trivial) rfl (by kernel_rfl) hd (fun _ _ _ h => h) rfl ⟨rfl, by rintro _ rfl; go_simp; first | done | with_reducible rfl⟩ (fun hd => ?_)
          simp only [List.getElem_toArray, List.getElem_cons_succ, List.getElem_cons_zero, Act.put, List.setIfInBounds_toArray, List.set_cons_zero, List.set_cons_succ]
          refine wpCalm_take 1 20 (fun _ => trivial) rfl (by kernel_rfl) hd (fun _ _ _ h => h) rfl ⟨rfl, by rintro _ rfl; go_simp; first | done | with_reducible rfl⟩ (fun hd => ?_)
          simp only [List.getElem_toArray, List.getElem_cons_succ, List.getElem_cons_zero, Act.put, List.setIfInBounds_toArray, List.set_cons_zero, List.set_cons_succ]
          refine wpCalm_take 2 20 (fun _ => trivial) rfl (by kernel_rfl) hd (fun _ _ _ h => h) rfl ⟨rfl, by rintro _ rfl; go_simp; first | done | with_reducible rfl⟩ (fun hd => ?_)
          simp only [List.getElem_toArray, List.getElem_cons_succ, List.getElem_cons_zero, Act.put, List.setIfInBounds_toArray, List.set_cons_zero, List.set_cons_succ]
          refine wpCalm_take 3 20 (fun _ => trivial) rfl (by kernel_rfl) hd (fun _ _ _ h => h) rfl ⟨rfl, by rintro _ rfl; go_simp; first | done | with_reducible rfl⟩ (fun hd => ?_)
          simp only [List.getElem_toArray, List.getElem_cons_succ, List.getElem_cons_zero, Act.put, List.setIfInBounds_toArray, List.set_cons_zero, List.set_cons_succ]
          refine wpCalm_take 4 20 (fun _ => trivial) rfl (by kernel_rfl) hd (fun _ _ _ h => h) rfl ⟨rfl, by rintro _ rfl; go_simp; first | done | with_reducible rfl⟩ (fun hd => ?_)
          simp only [List.getElem_toArray, List.getElem_cons_succ, List.getElem_cons_zero, Act.put, List.setIfInBounds_toArray, List.set_cons_zero, List.set_cons_succ]
          refine wpCalm_take 5 20 (fun _ => trivial) rfl (by kernel_rfl) hd (fun _ _ _ h => h) rfl ⟨rfl, by rintro _ rfl; go_simp; first | done | with_reducible rfl⟩ (fun hd => ?_)
          simp only [List.getElem_toArray, List.getElem_cons_succ, List.getElem_cons_zero, Act.put, List.setIfInBounds_toArray, List.set_cons_zero, List.set_cons_succ]
          refine wpCalm_take 6 20 (fun _ => trivial) rfl (by kernel_rfl) hd (fun _ _ _ h => h) rfl ⟨rfl, by rintro _ rfl; go_simp; first | done | with_reducible rfl⟩ (fun hd => ?_)
          simp only [List.getElem_toArray, List.getElem_cons_succ, List.getElem_cons_zero, Act.put, List.setIfInBounds_toArray, List.set_cons_zero, List.set_cons_succ]
          refine wpCalm_take 7 20 (fun _ => trivial) rfl (by kernel_rfl) hd (fun _ _ _ h => h) rfl ⟨rfl, by rintro _ rfl; go_simp; first | done | with_reducible rfl⟩ (fun hd => ?_)
          simp only [List.getElem_toArray, List.getElem_cons_succ, List.getElem_cons_zero, Act.put, List.setIfInBounds_toArray, List.set_cons_zero, List.set_cons_succ]
          refine wpCalm_done (by kernel_rfl) ?_
          gi_wp2
          go_ret2
          refine ⟨u8, by first | rfl | (simp; done) | (simp; exact (i64_w _).trans hw), Kd.R_lower HR.out (by have := HBS.out; have := hB1.size; omega), below_drew1 hBw⟩

end Go.Proofs.Ytjlljjnkjhdljaa.XA
