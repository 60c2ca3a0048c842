/- Short words for long printed texts (wip/xflat.py writes them into a text that is over a file's limit). -/
import Derived.Test.YthogemdknlpnpaaWMoreSlim
namespace Go.Proofs.Ythogemdknlpnpaa.Flat
open Go.RowKit Go.Proofs.YthogemdknlpnpaaW.PrintWords Go.Proofs.YthogemdknlpnpaaW.PrintLast Go.Proofs.YthogemdknlpnpaaW.PrintMore
/-- A mask: bit i of m, for i < n. -/
def bm (n m : Nat) : Array Bool := ⟨(List.range n).map m.testBit⟩
/-- What the heap held before block g came lies in another block. -/
theorem nf_ {W : World} {x : Addr} {v : Value} {b g : Nat} (h : W.cell? x = some v) (hG : W.heap.size ≤ g)
    (e : b = x.block := by first | rfl | exact add_block _ _ | exact (add_block _ _).symm | (dsimp only; first | rfl | exact add_block _ _ | exact (add_block _ _).symm)) : b ≠ g := by
  subst e
  exact Nat.ne_of_lt (Nat.lt_of_lt_of_le (World.block_lt_of_cell? _ _ h) hG)
theorem pu_ {P : Program} {ops : Array Oper} {Q : Exit → Act → World → Prop} {md : Region.Mode} {S : World → Prop} {ds : List Nat} {T : Bool × List (List Nat × List Nat)}
    {v : Value} {oi : Oper} {fuel : Nat} {l : Array Bool} {a : Act} {w : World} (i d : Nat) (hT : Aside0 (rtab md ops = T)) (l' : Array Bool) (hi : ops[i]? = some oi) (hN : oi.dst = some d) (hc : anyT T l.toList l'.toList i = true)
    (hQ : ∀ c a w, Q (.panic c) (a.put oi.dst v) w → Q (.panic c) a w) (hy : Yields P ops oi v a) {a' : Act} (ha : a.put (some d) v = a')
    (h : wpAnyLast P md ops Q S ds fuel l' a' w) : wpAnyLast P md ops Q S ds (fuel + 1) l a w :=
  pure_ (i := i) (N := some d) l' hi hN (any_of hT.out hc) hQ hy ha h
theorem hb_ {n : Nat} {W0 W1 W : World} (h : Aside0 (Below n W0 W1)) (e : Below n W0 W1 → Below n W0 W := by
    intro h_; repeat (first | (with_reducible first | exact h_ | apply below_alloc | apply pw_below_drewN | apply below_drew1 | refine below_set ?_ (Aside0.out (by assumption))) | exact h_)) : Below n W0 W := e h.out
theorem bk_ {W W1 : World} {g : Nat} {o : Obj} (h : Aside0 (W1.heap[g]? = some o)) (e : W1.heap[g]? = some o → W.heap[g]? = some o := by
    intro h_; (with_reducible repeat (first | refine blk_drewN ?_ _ | refine blk_drew ?_ | refine blk_alloc ?_ _)); exact h_) : W.heap[g]? = some o := e h.out
section
variable {P : Program} {ops : Array Oper} {Q : Exit → Act → World → Prop} {md : Region.Mode} {S : World → Prop} {ds : List Nat} {T : Bool × List (List Nat × List Nat)} {B : List Nat}
/-- A pure operation of a region that draws: what it yields is reckoned. -/
theorem pv_ {v : Value} {oi : Oper} {d fuel : Nat} {l : Array Bool} {a : Act} {w : World} (i : Nat) (hT : Aside0 (rtab md ops = T)) {a' : Act}
    (h : wpAnyLast P md ops Q S ds fuel (l.setIfInBounds i true) a' w) (hi : ops[i]? = some oi := by rfl) (hN : oi.dst = some d := by rfl) (hc : anyT T l.toList (l.setIfInBounds i true).toList i = true := by kernel_rfl)
    (hQ : ∀ c a w, Q (.panic c) (a.put oi.dst v) w → Q (.panic c) a w := by exact fun _ _ _ h => h)
    (hy : Yields P ops oi v a := by (refine Or.inl ⟨by rfl, ?_⟩; intro w'; go_simp; with_reducible rfl))
    (ha : a.put (some d) v = a' := by (simp only [Act.put, List.setIfInBounds_toArray, List.set_cons_zero, List.set_cons_succ, i64_w, i32_w]; rfl)) :
    wpAnyLast P md ops Q S ds (fuel + 1) l a w :=
  pure_ (i := i) (N := some d) _ hi hN (any_of hT.out hc) hQ hy ha h
/-- A read of a region that draws, out of what is held. -/
theorem tv_ {v : Value} {oi : Oper} {d fuel : Nat} {l : Array Bool} {a : Act} {w : World} (i : Nat) (hT : Aside0 (rtab md ops = T)) (hB : Aside0 (waitsOk T.2 B = true)) (hS : S w) {a' : Act}
    (h : wpAnyLast P md ops Q S ds fuel (l.setIfInBounds i true) a' w) (hi : ops[i]? = some oi := by rfl) (hN : oi.dst = some d := by rfl) (hc : takeW T B ds l.toList (l.setIfInBounds i true).toList i = true := by kernel_rfl)
    (hQ : ∀ c a w, Q (.panic c) (a.put oi.dst v) w → Q (.panic c) a w := by exact fun _ _ _ h => h)
    (hy : YieldsIf P ops S oi v a := by (refine Or.inl ⟨by rfl, ?_⟩; intro w' s_; (repeat (obtain ⟨_, s_⟩ := s_)); go_simp; with_reducible rfl))
    (ha : a.put (some d) v = a' := by (simp only [Act.put, List.setIfInBounds_toArray, List.set_cons_zero, List.set_cons_succ, i64_w, i32_w]; rfl)) :
    wpAnyLast P md ops Q S ds (fuel + 1) l a w :=
  take_ (i := i) (N := some d) _ hi hN (take_ofW hT.out hB.out hc) hQ hy hS ha h
theorem nv_ {fuel : Nat} {l : Array Bool} {a a' : Act} {w : World} (h : wpAnyLast P md ops Q S ds fuel l a' w)
    (ha : a = a' := by (show Act.put _ (some _) _ = _; simp only [Act.put, List.setIfInBounds_toArray, List.set_cons_zero, List.set_cons_succ, i64_w, i32_w]; rfl)) : wpAnyLast P md ops Q S ds fuel l a w := norm_ ha h
end
end Go.Proofs.Ythogemdknlpnpaa.Flat
