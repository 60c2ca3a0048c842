/- Short words for long printed texts (wip/xflat.py writes them into a text that is over a file's limit). -/
import Derived.Test.YtgacodhpniehiaaWMoreSlim
namespace Go.Proofs.Ytgacodhpniehiaa.Flat
open Go.RowKit Go.Proofs.YtgacodhpniehiaaW.PrintWords Go.Proofs.YtgacodhpniehiaaW.PrintLast Go.Proofs.YtgacodhpniehiaaW.PrintMore
/-- A mask: bit i of m, for i < n. -/
def bm (n m : Nat) : Array Bool := ⟨(List.range n).map m.testBit⟩
/-- What the heap held before block g came lies in another block. -/
theorem nf_ {W : World} {x : Addr} {v : Value} {b g : Nat} (h : W.cell? x = some v) (hG : W.heap.size ≤ g)
    (e : b = x.block := by first | rfl | exact add_block _ _ | exact (add_block _ _).symm | (dsimp only; first | rfl | exact add_block _ _ | exact (add_block _ _).symm)) : b ≠ g := by
  subst e
  exact Nat.ne_of_lt (Nat.lt_of_lt_of_le (World.block_lt_of_cell? _ _ h) hG)
theorem pu_ {P : Program} {ops : Array Oper} {Q : Exit → Act → World → Prop} {md : Region.Mode} {S : World → Prop} {ds : List Nat} {T : Bool × List (List Nat × List Nat)}
    {v : Value} {oi : Oper} {fuel : Nat} {l : Array Bool} {a : Act} {w : World} (i d : Nat) (hT : Aside0 (rtab md ops = T)) (l' : Array Bool) (hi : ops[i]? = some oi) (hN : oi.dst = some d) (hc : anyT T l.toList l'.toList i = true)
    (hQ : ∀ c a w, Q (.panic c) (a.put oi.dst v) w → Q (.panic c) a w) (hy : Yields P ops oi v a) {a' : Act} (ha : a.put (some d) v = a')
    (h : wpAnyLast P md ops Q S ds fuel l' a' w) : wpAnyLast P md ops Q S ds (fuel + 1) l a w :=
  pure_ (i := i) (N := some d) l' hi hN (any_of hT.out hc) hQ hy ha h
theorem hb_ {n : Nat} {W0 W1 W : World} (h : Aside0 (Below n W0 W1)) (e : Below n W0 W1 → Below n W0 W := by
    intro h_; repeat (first | (with_reducible first | exact h_ | apply below_alloc | apply pw_below_drewN | apply below_drew1 | refine below_set ?_ (Aside0.out (by assumption))) | exact h_)) : Below n W0 W := e h.out
theorem bk_ {W W1 : World} {g : Nat} {o : Obj} (h : Aside0 (W1.heap[g]? = some o)) (e : W1.heap[g]? = some o → W.heap[g]? = some o := by
    intro h_; (with_reducible repeat (first | refine blk_drewN ?_ _ | refine blk_drew ?_ | refine blk_alloc ?_ _)); exact h_) : W.heap[g]? = some o := e h.out
/-- Short ways to carry a fact on over an event. -/
theorem bb_ {W W1 W2 : World} {g : Nat} {o : Obj} (h : Aside0 (W1.heap[g]? = some o)) (hb : Below W.heap.size W W2) (e : W1.heap[g]? = some o → W.heap[g]? = some o := by
    intro h_; (with_reducible repeat (first | refine blk_drewN ?_ _ | refine blk_drew ?_ | refine blk_alloc ?_ _)); exact h_) : Aside0 (W2.heap[g]? = some o) := ⟨blk_below (e h.out) hb⟩
theorem hs_ {W0 W1 W W2 : World} (h : Aside0 (Below W0.heap.size W0 W1)) (hb : Below W.heap.size W W2) (e : Below W0.heap.size W0 W1 → Below W0.heap.size W0 W := by
    intro h_; repeat (first | (with_reducible first | exact h_ | apply below_alloc | apply pw_below_drewN | apply below_drew1 | refine below_set ?_ (Aside0.out (by assumption))) | exact h_)) : Aside0 (Below W0.heap.size W0 W2) := ⟨below_step (e h.out) hb⟩
theorem nl_ {W W1 : World} {g g' : Nat} {o : Obj} (h : Aside0 (W1.heap[g]? = some o)) (hg : g' = W.heap.size) (e : W1.heap[g]? = some o → W.heap[g]? = some o := by
    intro h_; (with_reducible repeat (first | refine blk_drewN ?_ _ | refine blk_drew ?_ | refine blk_alloc ?_ _)); exact h_) : Aside0 (g ≠ g') := ⟨by rw [hg]; exact Nat.ne_of_lt (blk_lt (e h.out))⟩
theorem nr_ {W W1 : World} {g g' : Nat} {o : Obj} (h : Aside0 (W1.heap[g]? = some o)) (hg : g' = W.heap.size) (e : W1.heap[g]? = some o → W.heap[g]? = some o := by
    intro h_; (with_reducible repeat (first | refine blk_drewN ?_ _ | refine blk_drew ?_ | refine blk_alloc ?_ _)); exact h_) : Aside0 (g' ≠ g) := ⟨by rw [hg]; exact Nat.ne_of_gt (blk_lt (e h.out))⟩
theorem gw_ {W0 W1 W : World} {g' : Nat} (h : Aside0 (Below W0.heap.size W0 W1)) (hg : g' = W.heap.size) (e : Below W0.heap.size W0 W1 → Below W0.heap.size W0 W := by
    intro h_; repeat (first | (with_reducible first | exact h_ | apply below_alloc | apply pw_below_drewN | apply below_drew1 | refine below_set ?_ (Aside0.out (by assumption))) | exact h_)) : Aside0 (W0.heap.size ≤ g') := ⟨by rw [hg]; exact below_size (e h.out)⟩
theorem bf1_ {W : World} {g b : Nat} {t_ : TypeId} {cs_ : Array Value} {i0 : Nat} {u0 : Value} (h : Aside0 (W.heap[g]? = some (.cells cs_ t_ (0, 0)))) (n : Aside0 (g ≠ b)) : (W.setCell ⟨b, i0, none⟩ u0).heap[g]? = some (.cells cs_ t_ (0, 0)) := (blk_far h.out n.out _)
theorem bs1_ {W : World} {g b : Nat} {t_ : TypeId} {cs_ : Array Value} {i0 : Nat} {u0 : Value} {W1 : World} (h : Aside0 (W.heap[g]? = some (.cells cs_ t_ (0, 0)))) (n : Aside0 (g ≠ b)) (hw : W1 = (W.setCell ⟨b, i0, none⟩ u0)) : Aside0 (W1.heap[g]? = some (.cells cs_ t_ (0, 0))) := ⟨by rw [hw]; exact bf1_ h n⟩
theorem cz1_ {W : World} {g t : Nat} {c0 : Value} (h : Aside0 (W.heap[g]? = some (.cells #[c0] t (0, 0)))) : W.cell? ⟨g, 0, none⟩ = some c0 ∧ W.frozen? ⟨g, 0, none⟩ = false := ⟨(blk_cell h.out 0).trans rfl, blk_frozen h.out 0⟩
theorem bf2_ {W : World} {g b : Nat} {t_ : TypeId} {cs_ : Array Value} {i0 i1 : Nat} {u0 u1 : Value} (h : Aside0 (W.heap[g]? = some (.cells cs_ t_ (0, 0)))) (n : Aside0 (g ≠ b)) : ((W.setCell ⟨b, i0, none⟩ u0).setCell ⟨b, i1, none⟩ u1).heap[g]? = some (.cells cs_ t_ (0, 0)) := (blk_far (blk_far h.out n.out _) n.out _)
theorem bs2_ {W : World} {g b : Nat} {t_ : TypeId} {cs_ : Array Value} {i0 i1 : Nat} {u0 u1 : Value} {W1 : World} (h : Aside0 (W.heap[g]? = some (.cells cs_ t_ (0, 0)))) (n : Aside0 (g ≠ b)) (hw : W1 = ((W.setCell ⟨b, i0, none⟩ u0).setCell ⟨b, i1, none⟩ u1)) : Aside0 (W1.heap[g]? = some (.cells cs_ t_ (0, 0))) := ⟨by rw [hw]; exact bf2_ h n⟩
theorem cz2_ {W : World} {g t : Nat} {c0 c1 : Value} (h : Aside0 (W.heap[g]? = some (.cells #[c0, c1] t (0, 0)))) : W.cell? ⟨g, 0, none⟩ = some c0 ∧ W.cell? ⟨g, 1, none⟩ = some c1 ∧ W.frozen? ⟨g, 0, none⟩ = false ∧ W.frozen? ⟨g, 1, none⟩ = false := ⟨(blk_cell h.out 0).trans rfl, (blk_cell h.out 1).trans rfl, blk_frozen h.out 0, blk_frozen h.out 1⟩
theorem bf3_ {W : World} {g b : Nat} {t_ : TypeId} {cs_ : Array Value} {i0 i1 i2 : Nat} {u0 u1 u2 : Value} (h : Aside0 (W.heap[g]? = some (.cells cs_ t_ (0, 0)))) (n : Aside0 (g ≠ b)) : (((W.setCell ⟨b, i0, none⟩ u0).setCell ⟨b, i1, none⟩ u1).setCell ⟨b, i2, none⟩ u2).heap[g]? = some (.cells cs_ t_ (0, 0)) := (blk_far (blk_far (blk_far h.out n.out _) n.out _) n.out _)
theorem bs3_ {W : World} {g b : Nat} {t_ : TypeId} {cs_ : Array Value} {i0 i1 i2 : Nat} {u0 u1 u2 : Value} {W1 : World} (h : Aside0 (W.heap[g]? = some (.cells cs_ t_ (0, 0)))) (n : Aside0 (g ≠ b)) (hw : W1 = (((W.setCell ⟨b, i0, none⟩ u0).setCell ⟨b, i1, none⟩ u1).setCell ⟨b, i2, none⟩ u2)) : Aside0 (W1.heap[g]? = some (.cells cs_ t_ (0, 0))) := ⟨by rw [hw]; exact bf3_ h n⟩
theorem cz3_ {W : World} {g t : Nat} {c0 c1 c2 : Value} (h : Aside0 (W.heap[g]? = some (.cells #[c0, c1, c2] t (0, 0)))) : W.cell? ⟨g, 0, none⟩ = some c0 ∧ W.cell? ⟨g, 1, none⟩ = some c1 ∧ W.cell? ⟨g, 2, none⟩ = some c2 ∧ W.frozen? ⟨g, 0, none⟩ = false ∧ W.frozen? ⟨g, 1, none⟩ = false ∧ W.frozen? ⟨g, 2, none⟩ = false := ⟨(blk_cell h.out 0).trans rfl, (blk_cell h.out 1).trans rfl, (blk_cell h.out 2).trans rfl, blk_frozen h.out 0, blk_frozen h.out 1, blk_frozen h.out 2⟩
theorem bf4_ {W : World} {g b : Nat} {t_ : TypeId} {cs_ : Array Value} {i0 i1 i2 i3 : Nat} {u0 u1 u2 u3 : Value} (h : Aside0 (W.heap[g]? = some (.cells cs_ t_ (0, 0)))) (n : Aside0 (g ≠ b)) : ((((W.setCell ⟨b, i0, none⟩ u0).setCell ⟨b, i1, none⟩ u1).setCell ⟨b, i2, none⟩ u2).setCell ⟨b, i3, none⟩ u3).heap[g]? = some (.cells cs_ t_ (0, 0)) := (blk_far (blk_far (blk_far (blk_far h.out n.out _) n.out _) n.out _) n.out _)
theorem bs4_ {W : World} {g b : Nat} {t_ : TypeId} {cs_ : Array Value} {i0 i1 i2 i3 : Nat} {u0 u1 u2 u3 : Value} {W1 : World} (h : Aside0 (W.heap[g]? = some (.cells cs_ t_ (0, 0)))) (n : Aside0 (g ≠ b)) (hw : W1 = ((((W.setCell ⟨b, i0, none⟩ u0).setCell ⟨b, i1, none⟩ u1).setCell ⟨b, i2, none⟩ u2).setCell ⟨b, i3, none⟩ u3)) : Aside0 (W1.heap[g]? = some (.cells cs_ t_ (0, 0))) := ⟨by rw [hw]; exact bf4_ h n⟩
theorem cz4_ {W : World} {g t : Nat} {c0 c1 c2 c3 : Value} (h : Aside0 (W.heap[g]? = some (.cells #[c0, c1, c2, c3] t (0, 0)))) : W.cell? ⟨g, 0, none⟩ = some c0 ∧ W.cell? ⟨g, 1, none⟩ = some c1 ∧ W.cell? ⟨g, 2, none⟩ = some c2 ∧ W.cell? ⟨g, 3, none⟩ = some c3 ∧ W.frozen? ⟨g, 0, none⟩ = false ∧ W.frozen? ⟨g, 1, none⟩ = false ∧ W.frozen? ⟨g, 2, none⟩ = false ∧ W.frozen? ⟨g, 3, none⟩ = false := ⟨(blk_cell h.out 0).trans rfl, (blk_cell h.out 1).trans rfl, (blk_cell h.out 2).trans rfl, (blk_cell h.out 3).trans rfl, blk_frozen h.out 0, blk_frozen h.out 1, blk_frozen h.out 2, blk_frozen h.out 3⟩
theorem bf5_ {W : World} {g b : Nat} {t_ : TypeId} {cs_ : Array Value} {i0 i1 i2 i3 i4 : Nat} {u0 u1 u2 u3 u4 : Value} (h : Aside0 (W.heap[g]? = some (.cells cs_ t_ (0, 0)))) (n : Aside0 (g ≠ b)) : (((((W.setCell ⟨b, i0, none⟩ u0).setCell ⟨b, i1, none⟩ u1).setCell ⟨b, i2, none⟩ u2).setCell ⟨b, i3, none⟩ u3).setCell ⟨b, i4, none⟩ u4).heap[g]? = some (.cells cs_ t_ (0, 0)) := (blk_far (blk_far (blk_far (blk_far (blk_far h.out n.out _) n.out _) n.out _) n.out _) n.out _)
theorem bs5_ {W : World} {g b : Nat} {t_ : TypeId} {cs_ : Array Value} {i0 i1 i2 i3 i4 : Nat} {u0 u1 u2 u3 u4 : Value} {W1 : World} (h : Aside0 (W.heap[g]? = some (.cells cs_ t_ (0, 0)))) (n : Aside0 (g ≠ b)) (hw : W1 = (((((W.setCell ⟨b, i0, none⟩ u0).setCell ⟨b, i1, none⟩ u1).setCell ⟨b, i2, none⟩ u2).setCell ⟨b, i3, none⟩ u3).setCell ⟨b, i4, none⟩ u4)) : Aside0 (W1.heap[g]? = some (.cells cs_ t_ (0, 0))) := ⟨by rw [hw]; exact bf5_ h n⟩
theorem cz5_ {W : World} {g t : Nat} {c0 c1 c2 c3 c4 : Value} (h : Aside0 (W.heap[g]? = some (.cells #[c0, c1, c2, c3, c4] t (0, 0)))) : W.cell? ⟨g, 0, none⟩ = some c0 ∧ W.cell? ⟨g, 1, none⟩ = some c1 ∧ W.cell? ⟨g, 2, none⟩ = some c2 ∧ W.cell? ⟨g, 3, none⟩ = some c3 ∧ W.cell? ⟨g, 4, none⟩ = some c4 ∧ W.frozen? ⟨g, 0, none⟩ = false ∧ W.frozen? ⟨g, 1, none⟩ = false ∧ W.frozen? ⟨g, 2, none⟩ = false ∧ W.frozen? ⟨g, 3, none⟩ = false ∧ W.frozen? ⟨g, 4, none⟩ = false := ⟨(blk_cell h.out 0).trans rfl, (blk_cell h.out 1).trans rfl, (blk_cell h.out 2).trans rfl, (blk_cell h.out 3).trans rfl, (blk_cell h.out 4).trans rfl, blk_frozen h.out 0, blk_frozen h.out 1, blk_frozen h.out 2, blk_frozen h.out 3, blk_frozen h.out 4⟩
theorem bf6_ {W : World} {g b : Nat} {t_ : TypeId} {cs_ : Array Value} {i0 i1 i2 i3 i4 i5 : Nat} {u0 u1 u2 u3 u4 u5 : Value} (h : Aside0 (W.heap[g]? = some (.cells cs_ t_ (0, 0)))) (n : Aside0 (g ≠ b)) : ((((((W.setCell ⟨b, i0, none⟩ u0).setCell ⟨b, i1, none⟩ u1).setCell ⟨b, i2, none⟩ u2).setCell ⟨b, i3, none⟩ u3).setCell ⟨b, i4, none⟩ u4).setCell ⟨b, i5, none⟩ u5).heap[g]? = some (.cells cs_ t_ (0, 0)) := (blk_far (blk_far (blk_far (blk_far (blk_far (blk_far h.out n.out _) n.out _) n.out _) n.out _) n.out _) n.out _)
theorem bs6_ {W : World} {g b : Nat} {t_ : TypeId} {cs_ : Array Value} {i0 i1 i2 i3 i4 i5 : Nat} {u0 u1 u2 u3 u4 u5 : Value} {W1 : World} (h : Aside0 (W.heap[g]? = some (.cells cs_ t_ (0, 0)))) (n : Aside0 (g ≠ b)) (hw : W1 = ((((((W.setCell ⟨b, i0, none⟩ u0).setCell ⟨b, i1, none⟩ u1).setCell ⟨b, i2, none⟩ u2).setCell ⟨b, i3, none⟩ u3).setCell ⟨b, i4, none⟩ u4).setCell ⟨b, i5, none⟩ u5)) : Aside0 (W1.heap[g]? = some (.cells cs_ t_ (0, 0))) := ⟨by rw [hw]; exact bf6_ h n⟩
theorem cz6_ {W : World} {g t : Nat} {c0 c1 c2 c3 c4 c5 : Value} (h : Aside0 (W.heap[g]? = some (.cells #[c0, c1, c2, c3, c4, c5] t (0, 0)))) : W.cell? ⟨g, 0, none⟩ = some c0 ∧ W.cell? ⟨g, 1, none⟩ = some c1 ∧ W.cell? ⟨g, 2, none⟩ = some c2 ∧ W.cell? ⟨g, 3, none⟩ = some c3 ∧ W.cell? ⟨g, 4, none⟩ = some c4 ∧ W.cell? ⟨g, 5, none⟩ = some c5 ∧ W.frozen? ⟨g, 0, none⟩ = false ∧ W.frozen? ⟨g, 1, none⟩ = false ∧ W.frozen? ⟨g, 2, none⟩ = false ∧ W.frozen? ⟨g, 3, none⟩ = false ∧ W.frozen? ⟨g, 4, none⟩ = false ∧ W.frozen? ⟨g, 5, none⟩ = false := ⟨(blk_cell h.out 0).trans rfl, (blk_cell h.out 1).trans rfl, (blk_cell h.out 2).trans rfl, (blk_cell h.out 3).trans rfl, (blk_cell h.out 4).trans rfl, (blk_cell h.out 5).trans rfl, blk_frozen h.out 0, blk_frozen h.out 1, blk_frozen h.out 2, blk_frozen h.out 3, blk_frozen h.out 4, blk_frozen h.out 5⟩
theorem rk_ {α : Type} {d : Kd α} {e base : Nat} {ok : Nat → Prop} {w w1 : World} {v : Value} {xs : List α} (h : Aside0 (d.R e w base ok v xs)) (k : d.R e w base ok v xs → d.R e w1 base ok v xs := by
    intro h_; (with_reducible repeat (first | apply Kd.R_alloc | apply Kd.R_drewN | apply Kd.R_drew)); exact h_) : d.R e w1 base ok v xs := k h.out
theorem rb_ {α : Type} {d : Kd α} {e base : Nat} {ok : Nat → Prop} {w w1 w2 : World} {v : Value} {xs : List α} (h : Aside0 (d.R e w base ok v xs)) (hb : Below w1.heap.size w1 w2) (k : d.R e w base ok v xs → d.R e w1 base ok v xs := by
    intro h_; (with_reducible repeat (first | apply Kd.R_alloc | apply Kd.R_drewN | apply Kd.R_drew)); exact h_) : Aside0 (d.R e w2 base ok v xs) := ⟨Kd.R_below (k h.out) hb⟩
/-- The frame, its scratch forgotten: one function of the slots bears what stands there. (The kit's 'go_cut' tells of each slot by an 'exists' of its own: with many cuts and many slots the kernel runs out of memory.) -/
def fg_ (u : Nat → Value) : List (Option Nat) → List Value → List Value
  | some d :: m, _ :: l => u d :: fg_ u m l
  | none :: m, x :: l => x :: fg_ u m l
  | [], l => l
  | _, [] => []
@[simp] def tm_ (a : Act) (d : Nat) : Value := a.tmps.toList.getD d (.bool false)
def CutR (m : List (Option Nat)) (a : Act) (rel : (Nat → Value) → World → Prop) : Act → World → Prop := fun a' w' => ∃ u, rel u w' ∧ a' = ⟨(fg_ u m a.tmps.toList).toArray, a.defers⟩
theorem cutU_ {P : Program} {s : Code} {K : Act → World → Prop} {Q' : Exit → Act → World → Prop} {a : Act} {w : World} (m : List (Option Nat)) (rel : (Nat → Value) → World → Prop)
    (rest : ∀ u wc, rel u wc → K ⟨(fg_ u m a.tmps.toList).toArray, a.defers⟩ wc)
    (first : ∀ (J K' : Act → World → Prop), (∀ a' w', CutR m a rel a' w' → J a' w') → (∀ a' w', Met J a' w' → K' a' w') → s.wp P (Exit.then K' Q') a w) : s.wp P (Exit.then K Q') a w :=
  wp_cut (CutR m a rel) (fun a' w' ⟨u, h, e⟩ => by subst e; exact rest u w' h) first
theorem meetU_ {m : List (Option Nat)} {a a' : Act} {w' : World} {rel : (Nat → Value) → World → Prop} (h : rel (tm_ a') w') (e : a' = ⟨(fg_ (tm_ a') m a.tmps.toList).toArray, a.defers⟩ := by first | kernel_rfl | rfl) : CutR m a rel a' w' := ⟨_, h, e⟩
section
variable {P : Program} {ops : Array Oper} {Q : Exit → Act → World → Prop} {md : Region.Mode} {S : World → Prop} {ds : List Nat} {T : Bool × List (List Nat × List Nat)} {B : List Nat}
/-- A pure operation of a region that draws: what it yields is reckoned. -/
theorem pv_ {v : Value} {oi : Oper} {d fuel : Nat} {l : Array Bool} {a : Act} {w : World} (i : Nat) (hT : Aside0 (rtab md ops = T)) {a' : Act}
    (h : wpAnyLast P md ops Q S ds fuel (l.setIfInBounds i true) a' w) (hi : ops[i]? = some oi := by rfl) (hN : oi.dst = some d := by rfl) (hc : anyT T l.toList (l.setIfInBounds i true).toList i = true := by kernel_rfl)
    (hQ : ∀ c a w, Q (.panic c) (a.put oi.dst v) w → Q (.panic c) a w := by exact fun _ _ _ h => h)
    (hy : Yields P ops oi v a := by (refine Or.inl ⟨by rfl, ?_⟩; intro w'; go_simp; with_reducible rfl))
    (ha : a.put (some d) v = a' := by (simp only [Act.put, List.setIfInBounds_toArray, List.set_cons_zero, List.set_cons_succ, i64_w, i32_w]; rfl)) :
    wpAnyLast P md ops Q S ds (fuel + 1) l a w :=
  pure_ (i := i) (N := some d) _ hi hN (any_of hT.out hc) hQ hy ha h
/-- A read of a region that draws, out of what is held. -/
theorem tv_ {v : Value} {oi : Oper} {d fuel : Nat} {l : Array Bool} {a : Act} {w : World} (i : Nat) (hT : Aside0 (rtab md ops = T)) (hB : Aside0 (waitsOk T.2 B = true)) (hS : S w) {a' : Act}
    (h : wpAnyLast P md ops Q S ds fuel (l.setIfInBounds i true) a' w) (hi : ops[i]? = some oi := by rfl) (hN : oi.dst = some d := by rfl) (hc : takeW T B ds l.toList (l.setIfInBounds i true).toList i = true := by kernel_rfl)
    (hQ : ∀ c a w, Q (.panic c) (a.put oi.dst v) w → Q (.panic c) a w := by exact fun _ _ _ h => h)
    (hy : YieldsIf P ops S oi v a := by (refine Or.inl ⟨by rfl, ?_⟩; intro w' s_; (repeat (obtain ⟨_, s_⟩ := s_)); go_simp; with_reducible rfl))
    (ha : a.put (some d) v = a' := by (simp only [Act.put, List.setIfInBounds_toArray, List.set_cons_zero, List.set_cons_succ, i64_w, i32_w]; rfl)) :
    wpAnyLast P md ops Q S ds (fuel + 1) l a w :=
  take_ (i := i) (N := some d) _ hi hN (take_ofW hT.out hB.out hc) hQ hy hS ha h
theorem nv_ {fuel : Nat} {l : Array Bool} {a a' : Act} {w : World} (h : wpAnyLast P md ops Q S ds fuel l a' w)
    (ha : a = a' := by (show Act.put _ (some _) _ = _; simp only [Act.put, List.setIfInBounds_toArray, List.set_cons_zero, List.set_cons_succ, i64_w, i32_w]; rfl)) : wpAnyLast P md ops Q S ds fuel l a w := norm_ ha h
end
end Go.Proofs.Ytgacodhpniehiaa.Flat
