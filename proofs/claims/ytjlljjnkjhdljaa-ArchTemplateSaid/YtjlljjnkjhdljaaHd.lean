import Derived.Test.YtjlljjnkjhdljaaXAx0
import Derived.Test.YtjlljjnkjhdljaaXAx3
import Derived.Test.YtjlljjnkjhdljaaXAx9
import Derived.Test.YtjlljjnkjhdljaaHr
import Derived.Test.YtjlljjnkjhdljaaHa
import Derived.RangeFuncNested
import Derived.RangeFuncBound
import Derived.RangeFuncCalls
import Derived.RangeFuncLeaves
import Derived.Shelf.Abstract
import Derived.OwnWalkIn
import Derived.TacticsInMore
import Derived.LoopNIn
import Derived.LoopIn
namespace Go.Proofs.Ytjlljjnkjhdljaa.XA
open Go.RowKit Go.Shelf Go.Proofs.Ytjlljjnkjhdljaa.Opens Go.Proofs.YtjlljjnkjhdljaaW.PrintWords Go.Proofs.YtjlljjnkjhdljaaW.PrintLast Go.Proofs.YtjlljjnkjhdljaaW.PrintMore
attribute [local go_sem] Oper.semAt_some
set_option linter.unusedVariables false
set_option linter.unusedSimpArgs false

def mir (k : Nat) (s : Int) : List (List S46) → Option (List (List S46))
  | [] => some []
  | l :: ls => (arch_flip.f k l s).bind fun r => (mir k s ls).bind fun rs => some (r :: rs)
theorem mir_mono (k : Nat) (s : Int) : ∀ ls, LeO (mir k s ls) (mir (k + 1) s ls)
  | [] => LeO.refl _
  | l :: ls => by
    unfold mir
    exact LeO.bind (arch_flip.mono _ _ _) (fun _ => LeO.bind (mir_mono k s ls) (fun _ => LeO.refl _))
def arch_mirror.f (k : Nat) (l0 : List (List S46)) : Option (List (List S46)) := (arch_springings.f l0).bind fun t => if l0.length < 1000 then mir k (wrap64 (t.1 + t.2.2.1)) l0.reverse else none
theorem arch_mirror.mono : ∀ a0 k, LeO (arch_mirror.f k a0) (arch_mirror.f (k + 1) a0) := by
  intro a0 k
  unfold arch_mirror.f
  exact LeO.bind (LeO.refl _) (fun _ => LeO.ite (mir_mono _ _ _) (LeO.refl _))

set_option maxHeartbeats 1000000 in
theorem backward_in (F : Fence) (n : Nat) (hf : F.fn 64) (hro : F.round = none) (a : Option Addr) (len cap : Nat) (w : World) :
    CallsIn F n Try.prog 64 #[.slice a len cap] w fun e w' => e = .returned (.func (.func 71) #[] #[.pointer (some ⟨w.heap.size, 0, none⟩)]) ∧ w' = w.alloc (.cells #[.slice a len cap] 22) := by
  refine callsIn_of_wp Try.func64 rfl hf ?_ hro
  simp only [Try.ntmps64, List.size_toArray, List.length_cons, List.length_nil, Nat.reduceAdd, Nat.reduceSub, Array.replicate_succ, Array.replicate_zero, List.push_toArray, List.append_toArray, List.nil_append, List.cons_append]
  gi_wp2
  go_ret
  exact ⟨rfl, rfl⟩

/-- A row as it stands in world w, of which p holds. -/
abbrev Row (w : World) (p : List S46 → Prop) : Type := { x : Option Addr × Nat × List S46 // Kd.C k46 w x.1 x.2.2.length x.2.2 ∧ x.2.2.length ≤ x.2.1 ∧ p x.2.2 }
def bw_enc {w : World} {p : List S46 → Prop} (x : Int × Row w p) : Array Value := #[.int .i64 x.1, .slice x.2.1.1 x.2.1.2.2.length x.2.1.2.1]
def bw_at {w : World} {p : List S46 → Prop} (rows : Nat → Row w p) (n : Nat) (j : Nat) : Int × Row w p := ((n : Int) - 1 - (j : Int), rows (n - 1 - j))
def bw_upto {w : World} {p : List S46 → Prop} (rows : Nat → Row w p) (n : Nat) (k : Nat) : List (Int × Row w p) := (List.range k).map (bw_at rows n)
theorem bw_upto_succ {w : World} {p : List S46 → Prop} (rows : Nat → Row w p) (n k : Nat) : bw_upto rows n (k + 1) = bw_upto rows n k ++ [bw_at rows n k] := by simp [bw_upto, List.range_succ]
theorem bw_upto_length {w : World} {p : List S46 → Prop} (rows : Nat → Row w p) (n k : Nat) : (bw_upto rows n k).length = k := by simp [bw_upto]
/-- The rows of a list, as they stand. -/
def Lays {w : World} {p : List S46 → Prop} (rows : Nat → Row w p) (A : Option Addr) (zs : List (List S46)) : Prop :=
  ∀ i : Nat, i < zs.length → ∃ ad, A = some ad ∧ w.cell? (ad.add i) = some (.slice (rows i).1.1 (rows i).1.2.2.length (rows i).1.2.1) ∧ (rows i).1.2.2 = rd_L2 zs i
theorem lays_of {w : World} {p : List S46 → Prop} {A : Option Addr} {zs : List (List S46)} (hC : Kd.C (Kd.slice 46 k46) w A zs.length zs) (hp : ∀ i : Nat, i < zs.length → p (rd_L2 zs i)) (h0 : 0 < zs.length) : ∃ rows : Nat → Row w p, Lays rows A zs := by
  have ex : ∀ i : Nat, i < zs.length → ∃ x : Row w p, ∃ ad, A = some ad ∧ w.cell? (ad.add i) = some (.slice x.1.1 x.1.2.2.length x.1.2.1) ∧ x.1.2.2 = rd_L2 zs i := fun i hi => by
    obtain ⟨ad, A0, c0, e, hc, hl, hr⟩ := at_L2 hC (i : Int) (by omega) (by omega)
    exact ⟨⟨(A0, c0, rd_L2 zs i), hr, hl, hp i hi⟩, ad, e, by simpa using hc, rfl⟩
  have dflt : Row w p := Classical.choose (ex 0 h0)
  exact ⟨fun i => if h : i < zs.length then Classical.choose (ex i h) else dflt, fun i hi => by
    simp only [dif_pos hi]
    exact Classical.choose_spec (ex i hi)⟩

set_option maxRecDepth 100000 in
set_option maxHeartbeats 2000000 in
theorem backward1_in {p : List S46 → Prop} (n : Nat) (hn : 1 ≤ n) (l Bs n₀ : Nat) (A : Option Addr) (cap : Nat) (zs : List (List S46)) (w0 : World) (hn0 : w0.heap.size ≤ n₀) (rows : Nat → Row w0 p) (hL : Lays rows A zs) (hpos : 0 < zs.length) (hlen : zs.length < 1000) (J Jx : List (Int × Row w0 p) → World → Prop)
    (hY : ∀ pre x W, J pre W → pre.length < zs.length → YieldAt Fence.wide (n - 1) Try.prog l (bw_enc x) W fun e W' =>
      (e = .returned (.bool true) ∧ J (pre ++ [x]) W' ∧ KeepB n₀ Bs W W') ∨ (e = .returned (.bool false) ∧ Jx (pre ++ [x]) W'))
    (W : World) (hb0 : Below w0.heap.size w0 W) (hBs : W.cell? ⟨Bs, 0, none⟩ = some (.slice A zs.length cap)) (h0 : J [] W) :
    CallsIn Fence.wide n Try.prog 71 #[.func (.yield l) #[] #[], .pointer (some ⟨Bs, 0, none⟩)] W fun e W' => (∃ v, e = .returned v) ∧
      ((∃ ys, ys = bw_upto rows zs.length zs.length ∧ J ys W') ∨ (∃ pre, (∃ k, k ≤ zs.length ∧ pre = bw_upto rows zs.length k) ∧ Jx pre W')) := by
  refine callsIn_of_wp Try.func71 rfl trivial ?_ rfl
  simp only [Try.ntmps71, List.size_toArray, List.length_cons, List.length_nil, Nat.reduceAdd, Nat.reduceSub, Array.replicate_succ, Array.replicate_zero, List.push_toArray, List.append_toArray, List.nil_append, List.cons_append]
  gi_wp2
  have hw0 : IntKind.i64.wrap ((zs.length : Int) - 1) = (zs.length : Int) - 1 := wrap_at _ (by omega) (by omega)
  gi_loopw [3] (fun i wr => ∃ k : Nat, k ≤ zs.length ∧ i = .int .i64 ((zs.length : Int) - 1 - (k : Int)) ∧ J (bw_upto rows zs.length k) wr ∧ KeepB n₀ Bs W wr)
    (fun i _ => (intOf i + 1).toNat)
  case atStart => exact ⟨0, Nat.zero_le _, by simp [hw0], h0, KeepB.refl _ _ _⟩
  case round =>
    obtain ⟨k, hk, rfl, hJs, hnx⟩ := hrel
    have hBr : wr.cell? ⟨Bs, 0, none⟩ = some (.slice A zs.length cap) := (hnx.cell 0).trans hBs
    by_cases hlt : k < zs.length
    · obtain ⟨fn, tmps, assign, body, hy, hR⟩ := hY _ (bw_at rows zs.length k) wr hJs (by rw [bw_upto_length]; exact hlt)
      dsimp only [bw_enc, bw_at] at hy
      obtain ⟨ad, e1, hx0, -⟩ := hL (zs.length - 1 - k) (by omega)
      subst e1
      have hb1 : Below w0.heap.size w0 wr := hb0.trans (hnx.1.mono hn0)
      replace hx0 := (hb1.cell (World.block_lt_of_cell? w0 _ hx0)).trans hx0
      have hi0 : 0 ≤ (zs.length : Int) - 1 - (k : Int) := by omega
      have hi1 : (zs.length : Int) - 1 - (k : Int) < (zs.length : Int) := by omega
      have hi2 : ((zs.length : Int) - 1 - (k : Int)).toNat = zs.length - 1 - k := by omega
      have hi3 : IntKind.i64.wrap ((zs.length : Int) - 1 - (k : Int) - 1) = (zs.length : Int) - 1 - ((k + 1 : Nat) : Int) := by rw [wrap_at _ (by omega) (by omega)]; omega
      obtain ⟨iv, hiv⟩ : ∃ iv : Int, (zs.length : Int) - 1 - (k : Int) = iv := ⟨_, rfl⟩
      rw [hiv] at hy hi0 hi1 hi2 hi3 ⊢
      have d0 : decide (0 ≤ iv) = true := decide_eq_true hi0
      gi_wp2
      refine hR.mono ?_
      rintro e W3 (⟨rfl, hJ3, hk3⟩ | ⟨rfl, hJx3⟩)
      · have hnx' : KeepB n₀ Bs W W3 := hnx.trans hk3
        gi_wp2
        go_roundw
        case rel => exact ⟨k + 1, by omega, by simp, by rw [bw_upto_succ]; exact hJ3, hnx'⟩
        case measure => simp [intOf]; omega
      · gi_wp2
        refine bodyPost_ret (results_none rfl _ _ _) rfl ?_
        exact ⟨⟨_, rfl⟩, .inr ⟨_, ⟨k + 1, by omega, (bw_upto_succ _ _ _).symm⟩, hJx3⟩⟩
    · obtain rfl : k = zs.length := by omega
      have hi3 : (zs.length : Int) - 1 - (zs.length : Int) = -1 := by omega
      rw [hi3]
      gi_wp2
      go_end0
      exact ⟨⟨_, rfl⟩, .inl ⟨_, rfl, hJs⟩⟩
theorem backward_stops {p : List S46 → Prop} (n : Nat) (hn : 1 ≤ n) (Bs n₀ : Nat) (A : Option Addr) (cap : Nat) (zs : List (List S46)) (w0 : World) (rows : Nat → Row w0 p) (hL : Lays rows A zs) (hpos : 0 < zs.length) (hlen : zs.length < 1000) (w : World) (hb0 : Below w0.heap.size w0 w) (hn0 : w0.heap.size ≤ n₀) (hn1 : n₀ ≤ w.heap.size)
    (hBs : w.cell? ⟨Bs, 0, none⟩ = some (.slice A zs.length cap)) (hBl : Bs < w.heap.size) :
    SeqStopsK Fence.wide n Try.prog 71 #[.pointer (some ⟨Bs, 0, none⟩)] bw_enc (KeepB n₀ Bs) (fun ys => ys = bw_upto rows zs.length zs.length)
      (fun pre => ∃ k, k ≤ zs.length ∧ pre = bw_upto rows zs.length k) zs.length w := fun l J Jx W hW hJ _ hY h0 =>
  backward1_in n hn l Bs n₀ A cap zs w0 hn0 rows hL hpos hlen J Jx hY W (hb0.trans (hW.mono (Nat.le_trans hn0 hn1))) ((hW.cell (p := ⟨Bs, 0, none⟩) hBl).trans hBs) h0
theorem mir_snoc (k : Nat) (s : Int) (x : List S46) : ∀ ls, mir k s (ls ++ [x]) = (mir k s ls).bind fun rs => (arch_flip.f k x s).bind fun t => some (rs ++ [t])
  | [] => by simp [mir]
  | l :: ls => by
    simp only [List.cons_append, mir, mir_snoc k s x ls]
    cases arch_flip.f k l s with
    | none => rfl
    | some a =>
      simp only [Option.bind_some]
      cases mir k s ls with
      | none => rfl
      | some b =>
        simp only [Option.bind_some]
        cases arch_flip.f k x s <;> rfl
theorem mir_all (k : Nat) (s : Int) : ∀ (ls : List (List S46)) (r : List (List S46)), mir k s ls = some r → ∀ l ∈ ls, (arch_flip.f k l s).isSome = true
  | [], _, _, l, hl => by cases hl
  | x :: ls, r, h, l, hl => by
    unfold mir at h
    obtain ⟨a, ha, h⟩ := Option.bind_eq_some_iff.mp h
    obtain ⟨b, hb, h⟩ := Option.bind_eq_some_iff.mp h
    rcases List.mem_cons.1 hl with rfl | hl
    · rw [ha]; rfl
    · exact mir_all k s ls b hb l hl
abbrev lst {w : World} {p : List S46 → Prop} (x : Int × Row w p) : List S46 := x.2.1.2.2
theorem bw_lists {w : World} {p : List S46 → Prop} {rows : Nat → Row w p} {A : Option Addr} {zs : List (List S46)} (hL : Lays rows A zs) : (bw_upto rows zs.length zs.length).map lst = zs.reverse := by
  apply List.ext_getElem
  · simp [bw_upto]
  · intro j h1 h2
    have hj : j < zs.length := by simpa using h2
    obtain ⟨_, _, _, e⟩ := hL (zs.length - 1 - j) (by omega)
    simp only [bw_upto, List.map_map, List.getElem_map, List.getElem_range, Function.comp, bw_at, lst, List.getElem_reverse]
    rw [e]
    unfold rd_L2
    rw [List.getD_eq_getElem?_getD, List.getElem?_eq_getElem (by omega)]
    simp
theorem S_own {α : Type} {d : Kd α} {e : Nat} {X Y : World} {base : Nat} {ok : Nat → Prop} {v : Value} {xs : List α} {row : Option Nat} (hs : Kd.S d e X base ok v xs) (hg : X.grownBy Y row) (hr : ∀ r, row = some r → ∃ o, X.heap[r]? = some o ∧ o.isCells = false) : Kd.S d e Y base ok v xs :=
  Kd.S_mono (Kd.S_step (Kd.S_bound hs) (fun k hk hlt => hg.block k hlt (fun e' => by
    obtain ⟨o, ho, hc⟩ := hr k e'.symm
    obtain ⟨_, _, _, q, _, cells, hcell⟩ := hk
    rw [hcell] at ho; cases ho; cases hc))) (fun k hk => hk.1)
set_option maxRecDepth 100000 in
set_option maxHeartbeats 4000000 in
theorem arch_mirror.calls (k : Nat) (A0 : Option Addr) (c0 : Nat) (l0 : List (List S46)) (r : List (List S46)) (w : World) (hr0 : Kd.C (Kd.slice 46 k46) w A0 l0.length l0) (hc0 : l0.length ≤ c0) (h : arch_mirror.f k l0 = some r) :
    Calls Try.prog 41 #[.slice A0 l0.length c0] w fun e w' => ∃ v0_ : Value, e = .returned (v0_) ∧ Kd.S (Kd.slice 46 k46) 38 w' w.heap.size (fun _ => True) v0_ r ∧ Below w.heap.size w w' := by
  obtain ⟨⟨q0, q1, q2, q3⟩, hsp, h⟩ := Option.bind_eq_some_iff.mp h
  have hlen : l0.length < 1000 := by
    refine Classical.byContradiction fun hp => ?_
    simp [hp] at h
  rw [if_pos hlen] at h
  have hpos : 0 < l0.length := by
    refine Classical.byContradiction fun hp => ?_
    have : ¬ (0 < (l0.length : Int)) := by omega
    unfold arch_springings.f at hsp
    rw [if_neg this] at hsp
    cases hsp
  obtain ⟨s, hs⟩ : ∃ s, wrap64 (q0 + q2) = s := ⟨_, rfl⟩
  rw [show wrap64 ((q0, q1, q2, q3).1 + (q0, q1, q2, q3).2.2.1) = s from hs] at h
  have hall := mir_all k s _ _ h
  obtain ⟨rows, hL⟩ := lays_of (p := fun x => (arch_flip.f k x s).isSome = true) hr0 (fun i hi => hall _ (by
    rw [List.mem_reverse]; unfold rd_L2; rw [List.getD_eq_getElem?_getD, List.getElem?_eq_getElem (by omega)]; exact List.getElem_mem _)) hpos
  refine (callsIn_wide (n := 5)).1 ?_
  refine callsIn_of_wp_marks Try.func41 rfl trivial ?_ rfl
  simp only [Try.ntmps41, List.size_toArray, List.length_cons, List.length_nil, Nat.reduceAdd, Nat.reduceSub, Array.replicate_succ, Array.replicate_zero, List.push_toArray, List.append_toArray, List.nil_append, List.cons_append]
  gi_wp2_with (first | (refine ⟨trivial, ?_⟩; gi_at_call 58; refine (callsIn_wide.2 (arch_springings.calls A0 c0 l0 q0 q1 q2 q3 _ hr0 hc0 hsp)).mono ?_; rintro e w1 ⟨rfl, hb1⟩) | (refine ⟨trivial, ?_⟩; gi_at_call 64; refine (backward_in Fence.wide _ trivial rfl _ _ _ _).mono ?_; rintro e w' ⟨rfl, rfl⟩))
  have hsw := hb1.size
  obtain ⟨n1, hn1⟩ : ∃ n, w1.heap.size = n := ⟨_, rfl⟩
  have b3 : Blk ((((w1.alloc (.cells #[.int .i64 q0, .int .i64 q1] 46)).alloc (.cells #[.int .i64 q2, .int .i64 q3] 46)).alloc (.cells #[.slice none 0 0] 22)).alloc (.cells #[.slice A0 l0.length c0] 22)) w1.heap.size #[.int .i64 q0, .int .i64 q1] 46 := blk_alloc (blk_alloc (blk_alloc (World.alloc_heap_new w1 _) _) _) _
  have b4 := blk_alloc (blk_alloc (World.alloc_heap_new (w1.alloc (.cells #[.int .i64 q0, .int .i64 q1] 46)) (.cells #[.int .i64 q2, .int .i64 q3] 46)) (.cells #[.slice none 0 0] 22)) (.cells #[.slice A0 l0.length c0] 22)
  have bO := (Boxed.new ((w1.alloc (.cells #[.int .i64 q0, .int .i64 q1] 46)).alloc (.cells #[.int .i64 q2, .int .i64 q3] 46)) 22 (.slice none 0 0)).alloc (.cells #[.slice A0 l0.length c0] 22)
  have bE := Boxed.new (((w1.alloc (.cells #[.int .i64 q0, .int .i64 q1] 46)).alloc (.cells #[.int .i64 q2, .int .i64 q3] 46)).alloc (.cells #[.slice none 0 0] 22)) 22 (.slice A0 l0.length c0)
  have hB0 : Below w.heap.size w ((((w1.alloc (.cells #[.int .i64 q0, .int .i64 q1] 46)).alloc (.cells #[.int .i64 q2, .int .i64 q3] 46)).alloc (.cells #[.slice none 0 0] 22)).alloc (.cells #[.slice A0 l0.length c0] 22)) := (((hb1.alloc (by omega) _).alloc (by simp; omega) _).alloc (by simp; omega) _).alloc (by simp; omega) _
  have hsz : ((((w1.alloc (.cells #[.int .i64 q0, .int .i64 q1] 46)).alloc (.cells #[.int .i64 q2, .int .i64 q3] 46)).alloc (.cells #[.slice none 0 0] 22)).alloc (.cells #[.slice A0 l0.length c0] 22)).heap.size = w1.heap.size + 4 := by simp
  simp only [World.size_alloc] at b4 bO bE
  obtain ⟨W0, hW0⟩ : ∃ W0, ((((w1.alloc (.cells #[.int .i64 q0, .int .i64 q1] 46)).alloc (.cells #[.int .i64 q2, .int .i64 q3] 46)).alloc (.cells #[.slice none 0 0] 22)).alloc (.cells #[.slice A0 l0.length c0] 22)) = W0 := ⟨_, rfl⟩
  rw [hW0] at b3 b4 bO bE hB0 hsz ⊢
  clear hW0 hb1
  rw [hn1] at b3 b4 bO bE hsz hsw ⊢
  clear hn1 w1
  replace b4 : Blk W0 (n1 + 1) #[.int .i64 q2, .int .i64 q3] 46 := b4
  refine wpIn_rangeFunc_ownH rfl (by omega) (gf := 71) (lb := #[.pointer (some ⟨n1 + 1 + 1 + 1, 0, none⟩)]) rfl trivial (enters_of Try.func71 (by kernel_rfl) rfl)
    (backward_stops (5 - 1) (by omega) (n1 + 1 + 1 + 1) w.heap.size A0 c0 l0 w rows hL hpos hlen W0 hB0 (Nat.le_refl _) (by omega) bE.cell (by omega)) KeepB.trans (KeepB.put (by omega) (by omega)) (Below.refl _ _) (fun _ => rfl)
    (fun pre W => (∃ v xs, mir k s (pre.map lst) = some xs ∧ xs.length = pre.length ∧ Boxed W (n1 + 1 + 1) 22 v ∧ Kd.S (Kd.slice 46 k46) 38 W (n1 + 4) (fun _ => True) v xs ∧ Boxed W (n1 + 1 + 1 + 1) 22 (.slice A0 l0.length c0) ∧ Blk W n1 #[.int .i64 q0, .int .i64 q1] 46 ∧ Blk W (n1 + 1) #[.int .i64 q2, .int .i64 q3] 46) ∧ Below w.heap.size w W)
    (fun _ _ _ => False)
    (OwnFrom.and (Own.from (fun s X Y row hs hg hr => by obtain ⟨v, xs, h1, h2, h3, h4, h5, h6, h7⟩ := hs; exact ⟨v, xs, h1, h2, boxed_own _ _ (fun (_ : Unit) => _) () X Y row h3 hg hr, S_own h4 hg (fun r e => hr r e), boxed_own _ _ (fun (_ : Unit) => _) () X Y row h5 hg hr, Blk.own _ (fun (_ : Unit) => _) 46 () X Y row h6 hg hr, Blk.own _ (fun (_ : Unit) => _) 46 () X Y row h7 hg hr⟩) _) (ownFrom_below (Nat.le_refl _) (by omega)))
    (fun _ _ _ _ _ hs _ _ => hs)
    ⟨⟨_, [], rfl, rfl, bO, Kd.S_nil _ _ _ _ _, bE, b3, b4⟩, hB0⟩
    (fun x a' W => a' = { tmps := #[.slice A0 l0.length c0, undef, .slice none 0 0, .pointer (some ⟨n1, 0, none⟩), .pointer (some ⟨n1 + 1, 0, none⟩), .pointer (some ⟨n1 + 1 + 1, 0, none⟩), undef, .slice x.2.1.1 x.2.1.2.2.length x.2.1.2.1, .tuple #[.agg #[.int .i64 q0, .int .i64 q1], .agg #[.int .i64 q2, .int .i64 q3]], .slice A0 l0.length c0, .tuple #[.agg #[.int .i64 q0, .int .i64 q1], .agg #[.int .i64 q2, .int .i64 q3]], .agg #[.int .i64 q0, .int .i64 q1], .agg #[.int .i64 q2, .int .i64 q3], .slice A0 l0.length c0, .func (.func 71) #[] #[.pointer (some ⟨n1 + 1 + 1 + 1, 0, none⟩)], .int .i64 x.1, .slice x.2.1.1 x.2.1.2.2.length x.2.1.2.1, undef, undef, undef, undef, undef, undef, undef, undef, undef, undef, undef], defers := [] })
    (fun x a' _ X Y row hs hg hr => hs)
    ?assign ?body ?done ?stop
  case assign =>
    rintro l pre x W K hI hK
    dsimp only [bw_enc]
    gi_wp2
    exact hK _ _ ((KeepsOthers.refl _).from _) (KeepB.refl _ _ _) hI rfl
  case body =>
    rintro l pre ⟨xi, ⟨⟨Ax, cx, lx⟩, hrx, hcx, hfx⟩⟩ a' W hl ⟨r', hrl⟩ ⟨⟨v, xs, hxs, hxl, bO1, hS, bE1, b31, b41⟩, hB1⟩ rfl hlt
    dsimp only at hrx hcx hfx ⊢
    obtain ⟨t, ht⟩ := Option.isSome_iff_exists.1 hfx
    obtain ⟨Av, cv, rfl⟩ := Kd.S_slice hS
    have HXL := Aside0.mk hxl
    clear hxl
    have hN : n1 + 4 ≤ W.heap.size := by have := bE1.lt; omega
    have cO : W.cell? ⟨n1 + 1 + 1, 0, none⟩ = some (.slice Av xs.length cv) := bO1.cell
    have c3 : W.cell? ⟨n1, 0, none⟩ = some (.int .i64 q0) := (blk_cell b31 0).trans rfl
    have c4 : W.cell? ⟨n1 + 1, 0, none⟩ = some (.int .i64 q2) := (blk_cell b41 0).trans rfl
    have hw : IntKind.i64.wrap (q0 + q2) = s := (i64_w _).trans hs
    gi_wp2
    refine wpIn_region_calm [10] (fun w' => w'.cell? ⟨n1 + 1 + 1, 0, none⟩ = some (.slice Av xs.length cv) ∧ w'.cell? ⟨n1, 0, none⟩ = some (.int .i64 q0) ∧ w'.cell? ⟨n1 + 1, 0, none⟩ = some (.int .i64 q2)) (by kernel_rfl) (fun hd => ?_)
    refine wpCalm_take 0 20 (fun _ => trivial) rfl (by kernel_rfl) hd (fun _ _ _ h => h) ⟨cO, c3, c4⟩ ⟨rfl, by rintro w' ⟨h1, h2, h3⟩; go_simp; first | done | with_reducible rfl⟩ (fun hd => ?_)
    simp only [Act.put, List.setIfInBounds_toArray, List.set_cons_zero, List.set_cons_succ]
    refine wpCalm_take 1 20 (fun _ => trivial) rfl (by kernel_rfl) hd (fun _ _ _ h => h) ⟨cO, c3, c4⟩ ⟨rfl, by rintro w' ⟨h1, h2, h3⟩; go_simp; first | done | with_reducible rfl⟩ (fun hd => ?_)
    simp only [Act.put, List.setIfInBounds_toArray, List.set_cons_zero, List.set_cons_succ]
    refine wpCalm_take 2 20 (fun _ => trivial) rfl (by kernel_rfl) hd (fun _ _ _ h => h) ⟨cO, c3, c4⟩ ⟨rfl, by rintro w' ⟨h1, h2, h3⟩; go_simp; first | done | with_reducible rfl⟩ (fun hd => ?_)
    simp only [Act.put, List.setIfInBounds_toArray, List.set_cons_zero, List.set_cons_succ]
    refine wpCalm_take 3 20 (fun _ => trivial) rfl (by kernel_rfl) hd (fun _ _ _ h => h) ⟨cO, c3, c4⟩ ⟨rfl, by rintro w' ⟨h1, h2, h3⟩; go_simp; first | done | with_reducible rfl⟩ (fun hd => ?_)
    simp only [Act.put, List.setIfInBounds_toArray, List.set_cons_zero, List.set_cons_succ]
    refine wpCalm_take 4 20 (fun _ => trivial) rfl (by kernel_rfl) hd (fun _ _ _ h => h) ⟨cO, c3, c4⟩ ⟨rfl, by rintro w' ⟨h1, h2, h3⟩; go_simp; first | done | with_reducible rfl⟩ (fun hd => ?_)
    simp only [Act.put, List.setIfInBounds_toArray, List.set_cons_zero, List.set_cons_succ]
    refine wpCalm_take 5 20 (fun _ => trivial) rfl (by kernel_rfl) hd (fun _ _ _ h => h) ⟨cO, c3, c4⟩ ⟨rfl, by rintro w' ⟨h1, h2, h3⟩; go_simp; first | done | with_reducible rfl⟩ (fun hd => ?_)
    simp only [Act.put, List.setIfInBounds_toArray, List.set_cons_zero, List.set_cons_succ]
    refine wpCalm_take 6 20 (fun _ => trivial) rfl (by kernel_rfl) hd (fun _ _ _ h => h) ⟨cO, c3, c4⟩ ⟨rfl, by rintro w' ⟨h1, h2, h3⟩; go_simp; first | done | with_reducible rfl⟩ (fun hd => ?_)
    simp only [Act.put, List.setIfInBounds_toArray, List.set_cons_zero, List.set_cons_succ]
    refine wpCalm_next 7 rfl (by kernel_rfl) (fun K hK => ?_)
    go_simp
    refine ⟨trivial, (CallsIn.inRound l (callsIn_wide.2 (arch_flip.calls k Ax cx lx s t W.drew (Kd.C_drew (Kd.C_below hrx hB1)) hcx ht))).mono ?_⟩
    rintro e w15 ⟨v355, rfl, ho0, hb⟩
    replace ho0 : Kd.R k46 46 w15 W.heap.size (fun _ => True) v355 t := ho0
    have hbW : Below W.heap.size W w15 := (⟨rfl, rfl, rfl, Nat.le_refl _, fun _ _ => rfl⟩ : Below W.heap.size W W.drew).trans hb
    clear hb
    have hs15 := hbW.size
    have HS15 := Aside0.mk (Kd.S_elder' hS (Kd.R_base ho0) hbW)
    have HT15 := Aside0.mk (Kd.R_lower ho0 hN)
    clear ho0 hS
    obtain ⟨At, ct, eo⟩ := Kd.R_slice HT15.out
    subst eo
    have cq1 : w15.cell? ⟨n1 + 1 + 1, 0, none⟩ = some (.slice Av xs.length cv) := (hbW.cell (p := ⟨n1 + 1 + 1, 0, none⟩) (show n1 + 1 + 1 < W.heap.size by omega)).trans cO
    have cq2 : w15.cell? ⟨n1, 0, none⟩ = some (.int .i64 q0) := (hbW.cell (p := ⟨n1, 0, none⟩) (show n1 < W.heap.size by omega)).trans c3
    have cq3 : w15.cell? ⟨n1 + 1, 0, none⟩ = some (.int .i64 q2) := (hbW.cell (p := ⟨n1 + 1, 0, none⟩) (show n1 + 1 < W.heap.size by omega)).trans c4
    refine hK _ _ ⟨cq1, cq2, cq3⟩ ?_
    clear hK K
    try simp only [Act.put, List.setIfInBounds_toArray, List.set_cons_zero, List.set_cons_succ]
    refine wpCalm_next 8 rfl (by kernel_rfl) (fun K hK => ?_)
    go_simp
    refine hK _ _ ⟨by rw [World.cell?_alloc_past _ _ _ (by omega)]; exact cq1, by rw [World.cell?_alloc_past _ _ _ (by omega)]; exact cq2, by rw [World.cell?_alloc_past _ _ _ (by omega)]; exact cq3⟩ ?_
    clear hK K
    try simp only [Act.put, List.setIfInBounds_toArray, List.set_cons_zero, List.set_cons_succ]
    refine wpCalm_next 9 rfl (by kernel_rfl) (fun K hK => ?_)
    refine wanted_append (.tmp 17) (.tmp 25) 22 (fun _ => trivial) rfl (by rfl) (Kd.S_append_step (Kd.slice 46 k46) (w0 := W) (n1 + 4) (by rfl) (.tmp 17) (.tmp 25) 22 38 (.slice none 0 0) 24 rfl Try.underlying22 info38 rfl (by decide) (by omega) (.slice Av xs.length cv) xs t [.slice At t.length ct] (fun _ => True) (fun k_ => some k_ = (.slice At t.length ct : Value).ownBlock) rfl rfl ?aP (fun k_ hk_ => ((Kd.R_mono (ok' := fun k_ => ((fun _ => True)) k_ ∧ some k_ ≠ (Value.slice Av xs.length cv : Value).ownBlock) (Kd.R_apart' (HT15.out) (Kd.S_typed HS15.out) (by decide)) (fun k_ hk => ⟨trivial, hk.2⟩))).1 k_ hk_.symm) ?aF ?aO ?aB ?aS ?aL ?_)
    case aP => exact Kd.M_row (Kd.R_mono (Kd.R_tight rfl (Kd.R_mono (ok' := fun k_ => ((fun _ => True)) k_ ∧ some k_ ≠ (Value.slice Av xs.length cv : Value).ownBlock) (Kd.R_apart' (HT15.out) (Kd.S_typed HS15.out) (by decide)) (fun k_ hk => ⟨trivial, hk.2⟩))) (fun _ h_ => h_))
    case aB => exact hbW.mono hN
    case aF => exact fun _ _ => trivial
    case aO => exact Kd.S_mono HS15.out (fun k_ hk => ⟨trivial, fun e_ => hk.2 e_⟩)
    case aS => omega
    case aL => have := HXL.out; omega
    intro v1 w17 hS1 hB17 hg17 hat17
    have hs17 := hB17.size
    have dq1 : w17.cell? ⟨n1 + 1 + 1, 0, none⟩ = some (.slice Av xs.length cv) := (hB17.cell (p := ⟨n1 + 1 + 1, 0, none⟩) (show n1 + 1 + 1 < n1 + 4 by omega)).trans cO
    have dq2 : w17.cell? ⟨n1, 0, none⟩ = some (.int .i64 q0) := (hB17.cell (p := ⟨n1, 0, none⟩) (show n1 < n1 + 4 by omega)).trans c3
    have dq3 : w17.cell? ⟨n1 + 1, 0, none⟩ = some (.int .i64 q2) := (hB17.cell (p := ⟨n1 + 1, 0, none⟩) (show n1 + 1 < n1 + 4 by omega)).trans c4
    refine hK _ _ ⟨dq1, dq2, dq3⟩ ?_
    clear hK K
    obtain ⟨Av1, cv1, rfl⟩ := Kd.S_slice hS1
    simp only [List.length_append, List.length_cons, List.length_nil, Nat.zero_add] at hS1
    have bO17 : Boxed w17 (n1 + 1 + 1) 22 (.slice Av xs.length cv) := (hB17.block (n1 + 1 + 1) (by omega)).trans bO1
    have rf := bO17.frozen
    have HX1 := Aside0.mk hxs
    clear hxs
    try simp only [Act.put, List.setIfInBounds_toArray, List.set_cons_zero, List.set_cons_succ]
    refine wpCalm_late 10 rfl (by kernel_rfl) rfl (fun K hK => ?_)
    go_simp
    refine hK _ _ ?_
    clear hK K
    refine wpCalm_done (by kernel_rfl) ?_
    have ko : KeepsOthers w15 w17 := KeepsOthers.of_grownBy hg17 (fun j o e ho => by
      obtain ⟨cells, hcells⟩ := Kd.S_typed HS15.out j e
      rw [hcells] at ho; cases ho; rfl)
    have hne : ∀ k, n1 + 4 ≤ k → k ≠ n1 + 1 + 1 := fun k hk => by omega
    refine ⟨(((others_of_below hbW).trans ko).trans (KeepsOthers.setCell _ _ _)).from _, ⟨(hB17.mono (by omega)).setCell (p := ⟨n1 + 1 + 1, 0, none⟩) (by simp; omega) _, ((Below.heap_setCell w17 _ _ (n1 + 1 + 1 + 1) (by simp)).trans (hB17.block (n1 + 1 + 1 + 1) (by omega)))⟩, ⟨_, _, ?_, ?_, bO17.set _, Kd.S_mono (Kd.S_step (Kd.S_bound hS1) (fun k hk _ => Below.heap_setCell w17 _ _ k (hne k hk.2.1))) (fun _ _ => trivial), ?_, ?_, ?_⟩, (hB1.trans (hB17.mono (by omega))).setCell (p := ⟨n1 + 1 + 1, 0, none⟩) (by simp; omega) _⟩
    · rw [List.map_append, List.map_cons, List.map_nil, mir_snoc, HX1.out, ht]
      rfl
    · rw [List.length_append, List.length_append, HXL.out]
      rfl
    · have bE17 : Boxed w17 (n1 + 1 + 1 + 1) 22 (.slice A0 l0.length c0) := (hB17.block (n1 + 1 + 1 + 1) (by omega)).trans bE1
      exact bE17.other (show n1 + 1 + 1 + 1 ≠ n1 + 1 + 1 by omega) _
    · exact ((Below.heap_setCell w17 _ _ n1 (by simp; omega)).trans (hB17.block n1 (by omega))).trans b31
    · exact ((Below.heap_setCell w17 _ _ (n1 + 1) (by simp)).trans (hB17.block (n1 + 1) (by omega))).trans b41
  case done =>
    rintro D ys W hD rfl ⟨⟨v, xs, hxs, -, bO1, hS, -, -, -⟩, hB1⟩ hK
    rw [bw_lists hL, h] at hxs
    obtain rfl := Option.some.inj hxs
    obtain ⟨Av, cv, rfl⟩ := Kd.S_slice hS
    have nc := bO1.cell
    have HX := Aside0.mk hxs
    clear hxs
    gi_wp2
    refine ⟨by simp, .inl ⟨_, _, rfl, run_takeDeferred hK, ?_⟩⟩
    refine ⟨.slice Av r.length cv, ?_, _, rfl, Kd.S_lower (S_own hS (grownBy_putObj' W D _) (fun q e => by cases e; exact ⟨_, hK, rfl⟩)) (by omega), hB1.trans (belowK_b (w := w) (Nat.le_refl _) W D _ _ (by omega) hK rfl rfl)⟩
    simp [results, Try.f41, go_sem]
  case stop =>
    rintro D c pre W hD _ h _
    exact h.elim

end Go.Proofs.Ytjlljjnkjhdljaa.XA
