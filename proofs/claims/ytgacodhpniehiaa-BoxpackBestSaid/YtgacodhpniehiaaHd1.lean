import Derived.Test.YtgacodhpniehiaaXAx0
import Derived.Test.YtgacodhpniehiaaXAx5
import Derived.Test.YtgacodhpniehiaaXAx6
import Derived.Test.YtgacodhpniehiaaHc
import Derived.Test.YtgacodhpniehiaaHd0
import Derived.Test.YtgacodhpniehiaaFlat
namespace Go.Proofs.Ytgacodhpniehiaa.XA
open Go.RowKit Go.Proofs.Ytgacodhpniehiaa.Opens Go.Proofs.Ytgacodhpniehiaa.Flat Go.Proofs.YtgacodhpniehiaaW.PrintWords Go.Proofs.YtgacodhpniehiaaW.PrintLast Go.Proofs.YtgacodhpniehiaaW.PrintMore
attribute [local go_sem] max2_int min2_int max_two min_two max_three min_three max_four min_four cell_some cell_same
set_option linter.unusedVariables false
set_option linter.unusedSimpArgs false

/-- The index of the first item of a name, or -1. -/
def itemIx (its : List S56) (nm : ByteArray) : Nat → Int
  | i => match its with
    | [] => -1
    | x :: xs => if x.f0.toList = nm.toList then (i : Int) else itemIx xs nm (i + 1)
/-- The loop of Value over the nodes that are left. -/
def valF (kf : Int) (its : List S56) : List S61 → Nat → List S23 → List S23 → Int → Option (Int × Int)
  | [], _, _, _, t => some (t, 0)
  | n :: ns, i, ps, bs, t =>
    if n.f0 = 1 then
      if itemIx its n.f1 0 < 0 then some (0, 3)
      else if fitsB (rd_T56 its (itemIx its n.f1 0)).f1 (rd_T23 ps i) = true then valF kf its ns (i + 1) ps bs (wrap64 (t + (rd_T56 its (itemIx its n.f1 0)).f2))
      else some (0, 12)
    else if n.f0 = 3 then
      if (0 ≤ n.f2 ∧ n.f2 ≤ 2) ∧ (0 ≤ n.f5 ∧ n.f5 < (ps.length : Int)) ∧ (0 ≤ n.f6 ∧ n.f6 < (ps.length : Int)) then
        if n.f4 = kf ∧ ¬ n.f3 ≤ getAx (rd_T23 bs i) n.f2 ∧ ¬ n.f3 ≥ wrap64 (wrap64 (getAx (rd_T23 bs i) n.f2 + getAx (rd_T23 ps i) n.f2) - kf) then
          valF kf its ns (i + 1)
            ((ps.set n.f5.toNat (setAx (rd_T23 ps i) n.f2 (wrap64 (n.f3 - getAx (rd_T23 bs i) n.f2)))).set n.f6.toNat (setAx (rd_T23 ps i) n.f2 (wrap64 (wrap64 (getAx (rd_T23 ps i) n.f2 - wrap64 (n.f3 - getAx (rd_T23 bs i) n.f2)) - kf))))
            ((bs.set n.f5.toNat (rd_T23 bs i)).set n.f6.toNat (setAx (rd_T23 bs i) n.f2 (wrap64 (getAx (rd_T23 bs i) n.f2 + wrap64 (wrap64 (n.f3 - getAx (rd_T23 bs i) n.f2) + kf))))) t
        else some (0, 6)
      else none
    else valF kf its ns (i + 1) ps bs t
def boxpack_Value.f (k : Nat) (a0_0 : Int) (a0_1 : Int) (a0_2 : Int) (a0_3 : Int) (l0_4 : List (S56)) (l1 : List (S61)) : Option (Int × Int) := (boxpack_Check.f k a0_0 a0_1 a0_2 a0_3 l0_4).bind fun e => if e = 0 then (if l0_4.length < 1000 then (if (l1.length : Int) > 1024 then some (0, 7) else (boxpack_plan.f k l1).bind fun b => if b = true then (if l1.length > 0 then valF a0_3 l0_4 l1 0 ((List.replicate l1.length z23).set 0 ⟨a0_0, a0_1, a0_2⟩) (List.replicate l1.length z23) 0 else none) else some (0, 1)) else none) else some (0, e)
theorem boxpack_Value.mono : ∀ a0 a1 a2 a3 a4 a5 k, LeO (boxpack_Value.f k a0 a1 a2 a3 a4 a5) (boxpack_Value.f (k + 1) a0 a1 a2 a3 a4 a5) := by
  intro a0 a1 a2 a3 a4 a5 k
  unfold boxpack_Value.f
  refine LeO.bind (boxpack_Check.mono _ _ _ _ _ _) (fun e => LeO.ite (LeO.ite (LeO.ite (LeO.refl _) (LeO.bind (boxpack_plan.mono _ _) (fun _ => LeO.refl _))) (LeO.refl _)) (LeO.refl _))
/-- The two rows of Value: the pieces' sizes and where they begin. -/
structure VR (w W : World) (gp gb n cp cb : Nat) (ps bs : List S23) : Prop where
  hb : Below w.heap.size w W
  hn : gp ≠ gb
  rp : Kd.R k23 64 W w.heap.size (fun _ => True) (.slice (some ⟨gp, 0, none⟩) n cp) ps
  rb : Kd.R k23 64 W w.heap.size (fun _ => True) (.slice (some ⟨gb, 0, none⟩) n cb) bs
section
variable {w W Y : World} {gp gb n cp cb : Nat} {ps bs : List S23}
theorem VR.lp (h : VR w W gp gb n cp cb ps bs) : ps.length = n := (Kd.R_reads' h.rp).1.symm
theorem VR.lb (h : VR w W gp gb n cp cb ps bs) : bs.length = n := (Kd.R_reads' h.rb).1.symm
theorem VR.keep (h : VR w W gp gb n cp cb ps bs) (hb : Below W.heap.size W Y) : VR w Y gp gb n cp cb ps bs := ⟨below_step h.hb hb, h.hn, Kd.R_below h.rp hb, Kd.R_below h.rb hb⟩
theorem VR.lt (h : VR w W gp gb n cp cb ps bs) (hn : 0 < n) : w.heap.size ≤ gp ∧ gp < W.heap.size ∧ w.heap.size ≤ gb ∧ gb < W.heap.size := by
  obtain ⟨g, c, e, h1, h2, _⟩ := Kd.R_form h.rp (by have := h.lp; omega)
  obtain ⟨g', c', e', h1', h2', _⟩ := Kd.R_form h.rb (by have := h.lb; omega)
  injection e with e1 _ _
  injection e' with e1' _ _
  injection e1 with e1
  injection e1' with e1'
  injection e1 with e1 _
  injection e1' with e1' _
  subst e1 e1'
  exact ⟨h1, h2, h1', h2'⟩
theorem VR.ne (h : VR w W gp gb n cp cb ps bs) (hn : 0 < n) {g : Nat} (hg : g = W.heap.size) : w.heap.size ≤ g ∧ g ≠ gp ∧ g ≠ gb := by
  have := h.lt hn
  have := below_size h.hb
  omega
theorem VR.neT (h : VR w W gp gb n cp cb ps bs) (hn : 0 < n) {g t : Nat} {cs : Array Value} (hg : Aside0 (W.heap[g]? = some (.cells cs t (0, 0)))) (ht : t ≠ 64) : Aside0 (g ≠ gp) ∧ Aside0 (g ≠ gb) := by
  obtain ⟨g1, c, e, _, _, c1, k1⟩ := Kd.R_form h.rp (by have := h.lp; omega)
  obtain ⟨g2, c', e', _, _, c2, k2⟩ := Kd.R_form h.rb (by have := h.lb; omega)
  injection e with e1 _ _
  injection e' with e1' _ _
  injection e1 with e1
  injection e1' with e1'
  injection e1 with e1 _
  injection e1' with e1' _
  subst e1 e1'
  exact ⟨⟨blk_types hg.1 k1 ht⟩, ⟨blk_types hg.1 k2 ht⟩⟩
theorem VR.far (h : VR w W gp gb n cp cb ps bs) {g i : Nat} (hg : w.heap.size ≤ g ∧ g ≠ gp ∧ g ≠ gb) (v : Value) : VR w (W.setCell ⟨g, i, none⟩ v) gp gb n cp cb ps bs :=
  ⟨below_set h.hb hg.1, h.hn, Kd.R_mono (Kd.R_far (p := ⟨g, i, none⟩) (Kd.R_tight rfl h.rp) (fun k hk => by injection hk with hk; subst hk; exact hg.2.1.symm) v) (fun _ _ => trivial), Kd.R_mono (Kd.R_far (p := ⟨g, i, none⟩) (Kd.R_tight rfl h.rb) (fun k hk => by injection hk with hk; subst hk; exact hg.2.2.symm) v) (fun _ _ => trivial)⟩
theorem VR.far3 (h : VR w W gp gb n cp cb ps bs) {g i j k : Nat} (hg : w.heap.size ≤ g ∧ g ≠ gp ∧ g ≠ gb) {u0 u1 u2 : Value} : VR w (((W.setCell ⟨g, i, none⟩ u0).setCell ⟨g, j, none⟩ u1).setCell ⟨g, k, none⟩ u2) gp gb n cp cb ps bs := ((h.far hg _).far hg _).far hg _
theorem VR.cellP (h : VR w W gp gb n cp cb ps bs) {x : Int} (h0 : 0 ≤ x) (h1 : x < (n : Int)) : W.cell? ⟨gp, x.toNat * 3, none⟩ = some (.int .i64 (rd_T23 ps x).f0) ∧ W.cell? ⟨gp, x.toNat * 3 + 1, none⟩ = some (.int .i64 (rd_T23 ps x).f1) ∧ W.cell? ⟨gp, x.toNat * 3 + 2, none⟩ = some (.int .i64 (rd_T23 ps x).f2) ∧ ∀ j, W.frozen? ⟨gp, x.toNat * 3 + j, none⟩ = false := by
  obtain ⟨c, hcl, hM, hcc, hfr⟩ := Kd.R_elem h.rp z23 x h0 h1
  obtain rfl := k23_openM hM
  exact ⟨hcc 0 _ rfl, hcc 1 _ rfl, hcc 2 _ rfl, hfr⟩
theorem VR.cellB (h : VR w W gp gb n cp cb ps bs) {x : Int} (h0 : 0 ≤ x) (h1 : x < (n : Int)) : W.cell? ⟨gb, x.toNat * 3, none⟩ = some (.int .i64 (rd_T23 bs x).f0) ∧ W.cell? ⟨gb, x.toNat * 3 + 1, none⟩ = some (.int .i64 (rd_T23 bs x).f1) ∧ W.cell? ⟨gb, x.toNat * 3 + 2, none⟩ = some (.int .i64 (rd_T23 bs x).f2) ∧ ∀ j, W.frozen? ⟨gb, x.toNat * 3 + j, none⟩ = false := by
  obtain ⟨c, hcl, hM, hcc, hfr⟩ := Kd.R_elem h.rb z23 x h0 h1
  obtain rfl := k23_openM hM
  exact ⟨hcc 0 _ rfl, hcc 1 _ rfl, hcc 2 _ rfl, hfr⟩
/-- An element of the row g is written; all other blocks stay. -/
theorem VR.setP (h : VR w W gp gb n cp cb ps bs) {x : Int} (h0 : 0 ≤ x) (h1 : x < (n : Int)) (v0 v1 v2 : Int) : VR w (((W.setCell ⟨gp, x.toNat * 3, none⟩ (.int .i64 v0)).setCell ⟨gp, x.toNat * 3 + 1, none⟩ (.int .i64 v1)).setCell ⟨gp, x.toNat * 3 + 2, none⟩ (.int .i64 v2)) gp gb n cp cb (ps.set x.toNat ⟨v0, v1, v2⟩) bs := by
  have hl := h.lt (by omega)
  obtain ⟨c, hcl, hM, hcc, hfr⟩ := Kd.R_elem h.rp z23 x h0 h1
  obtain rfl := k23_openM hM
  have hp := Kd.R_seg h.rp x h0 h1 (seg := [.int .i64 v0, .int .i64 v1, .int .i64 v2]) (j := 0) hcl hcc (show 3 ≤ 3 from by decide) (x' := (⟨v0, v1, v2⟩ : S23)) (k23_mkM _ _ (fun k => k ≠ gp) _) (fun _ hk => ⟨trivial, hk⟩)
  exact ⟨below_set (below_set (below_set h.hb hl.1) hl.1) hl.1, h.hn, hp.1, Kd.R_grown2 h.rb rfl hp.2 (fun k hk e => by injection hk with hk; subst hk; injection e with e; exact h.hn e)⟩
theorem VR.setB (h : VR w W gp gb n cp cb ps bs) {x : Int} (h0 : 0 ≤ x) (h1 : x < (n : Int)) (v0 v1 v2 : Int) : VR w (((W.setCell ⟨gb, x.toNat * 3, none⟩ (.int .i64 v0)).setCell ⟨gb, x.toNat * 3 + 1, none⟩ (.int .i64 v1)).setCell ⟨gb, x.toNat * 3 + 2, none⟩ (.int .i64 v2)) gp gb n cp cb ps (bs.set x.toNat ⟨v0, v1, v2⟩) := by
  have hl := h.lt (by omega)
  obtain ⟨c, hcl, hM, hcc, hfr⟩ := Kd.R_elem h.rb z23 x h0 h1
  obtain rfl := k23_openM hM
  have hp := Kd.R_seg h.rb x h0 h1 (seg := [.int .i64 v0, .int .i64 v1, .int .i64 v2]) (j := 0) hcl hcc (show 3 ≤ 3 from by decide) (x' := (⟨v0, v1, v2⟩ : S23)) (k23_mkM _ _ (fun k => k ≠ gb) _) (fun _ hk => ⟨trivial, hk⟩)
  exact ⟨below_set (below_set (below_set h.hb hl.2.2.1) hl.2.2.1) hl.2.2.1, h.hn, Kd.R_grown2 h.rp rfl hp.2 (fun k hk e => by injection hk with hk; subst hk; injection e with e; exact h.hn e.symm), hp.1⟩
end
theorem cz7_ {W : World} {g t : Nat} {c0 c1 c2 c3 c4 c5 c6 : Value} (h : Aside0 (W.heap[g]? = some (.cells #[c0, c1, c2, c3, c4, c5, c6] t (0, 0)))) : (W.cell? ⟨g, 0, none⟩ = some c0 ∧ W.cell? ⟨g, 1, none⟩ = some c1 ∧ W.cell? ⟨g, 2, none⟩ = some c2 ∧ W.cell? ⟨g, 3, none⟩ = some c3 ∧ W.cell? ⟨g, 4, none⟩ = some c4 ∧ W.cell? ⟨g, 5, none⟩ = some c5 ∧ W.cell? ⟨g, 6, none⟩ = some c6) ∧ W.frozen? ⟨g, 0, none⟩ = false ∧ W.frozen? ⟨g, 1, none⟩ = false ∧ W.frozen? ⟨g, 2, none⟩ = false ∧ W.frozen? ⟨g, 3, none⟩ = false ∧ W.frozen? ⟨g, 4, none⟩ = false ∧ W.frozen? ⟨g, 5, none⟩ = false ∧ W.frozen? ⟨g, 6, none⟩ = false := ⟨⟨bc_ h 0, bc_ h 1, bc_ h 2, bc_ h 3, bc_ h 4, bc_ h 5, bc_ h 6⟩, blk_frozen h.1 0, blk_frozen h.1 1, blk_frozen h.1 2, blk_frozen h.1 3, blk_frozen h.1 4, blk_frozen h.1 5, blk_frozen h.1 6⟩
theorem drop61 (xs : List S61) (x : Int) (h0 : 0 ≤ x) (h1 : x < (xs.length : Int)) : xs.drop x.toNat = rd_T61 xs x :: xs.drop (x.toNat + 1) := by
  have hl : x.toNat < xs.length := by omega
  rw [List.drop_eq_getElem_cons hl, rd_T61, List.getD_eq_getElem?_getD, List.getElem?_eq_getElem hl]
  rfl
theorem item_l0 (its : List S56) (nm : ByteArray) (b0 b2 b3 b4 b5 b6 : Int) : ∀ (m : Nat) (x : Int) (k : Nat), 0 ≤ x → (its.length : Int) ≤ x + (m : Int) → its.length < 1000 → x ≤ (its.length : Int) → m < k → api_Item_30_by_boxpack_Value_1.l0 k its (its.length : Int) x b0 nm b2 b3 b4 b5 b6 = some (itemIx (its.drop x.toNat) nm x.toNat)
  | m, x, 0, _, _, _, _, h => absurd h (by omega)
  | m, x, k + 1, h0, hm, hl, hx, hk => by
    rw [api_Item_30_by_boxpack_Value_1.l0]
    by_cases hc : x < (its.length : Int)
    · rw [if_pos hc, if_pos h0, if_pos hc, drop56 its x h0 hc, itemIx]
      show (if ((rd_T56 its x).f0.toList == nm.toList) = true then _ else _) = _
      by_cases he : (rd_T56 its x).f0.toList = nm.toList
      · rw [if_pos (by simpa using he), if_pos he]
        exact congrArg some (by omega)
      rw [if_neg (by simpa using he), if_neg he]
      have hw : wrap64 (x + 1) = x + 1 := wr_ (by omega) (by omega)
      rw [hw, show x.toNat + 1 = (x + 1).toNat by omega]
      exact item_l0 its nm b0 b2 b3 b4 b5 b6 (m - 1) (x + 1) k (by omega) (by omega) hl (by omega) (by omega)
    rw [if_neg hc, List.drop_eq_nil_of_le (by omega), itemIx]
theorem item_f (its : List S56) (nm : ByteArray) (b0 b2 b3 b4 b5 b6 : Int) (hl : its.length < 1000) : api_Item_30_by_boxpack_Value_1.f 1001 its b0 nm b2 b3 b4 b5 b6 = some (itemIx its nm 0) := by
  rw [api_Item_30_by_boxpack_Value_1.f, item_l0 its nm b0 b2 b3 b4 b5 b6 its.length 0 1001 (by omega) (by omega) hl (by omega) (by omega)]
  rfl
theorem itemIx_lt (nm : ByteArray) : ∀ (its : List S56) (i : Nat), itemIx its nm i < (i : Int) + its.length
  | [], i => by show (-1 : Int) < _; simp; omega
  | x :: xs, i => by
    rw [itemIx]
    by_cases he : x.f0.toList = nm.toList
    · rw [if_pos he]; simp; omega
    rw [if_neg he]
    have := itemIx_lt nm xs (i + 1)
    simp at this ⊢
    omega

end Go.Proofs.Ytgacodhpniehiaa.XA
