import Derived.Test.YtgacodhpniehiaaXAx0
import Derived.Test.YtgacodhpniehiaaFlat
namespace Go.Proofs.Ytgacodhpniehiaa.XA
open Go.RowKit Opens Flat YtgacodhpniehiaaW.PrintWords YtgacodhpniehiaaW.PrintLast YtgacodhpniehiaaW.PrintMore
attribute [local go_sem] max2_int min2_int max_two min_two max_three min_three max_four min_four cell_some cell_same
set_option linter.unusedVariables false
set_option linter.unusedSimpArgs false

/-- A cut that is visited: its axis, its position, the sizes of both parts. -/
structure Ct where
  ax : Int
  pos : Int
  l : S23
  r : S23
def getAx (s : S23) (ax : Int) : Int := if ax = 0 then s.f0 else if ax = 1 then s.f1 else s.f2
def setAx (s : S23) (ax v : Int) : S23 := if ax = 0 then ⟨v, s.f1, s.f2⟩ else if ax = 1 then ⟨s.f0, v, s.f2⟩ else ⟨s.f0, s.f1, v⟩
/-- The cuts along one axis, by position. -/
def cutsA (kf : Int) (s : S23) (ax : Int) : List Ct := (List.range (getAx s ax - kf - 1).toNat).map fun (i : Nat) => ⟨ax, (i : Int) + 1, setAx s ax ((i : Int) + 1), setAx s ax (getAx s ax - ((i : Int) + 1) - kf)⟩
def cutsL (kf : Int) (s : S23) : List Ct := cutsA kf s 0 ++ (cutsA kf s 1 ++ cutsA kf s 2)
def ixS (n0 n1 : Int) (s : S23) : Int := wrap64 ((wrap64 ((wrap64 ((wrap64 ((wrap64 ((wrap64 ((wrap64 (s.f2 - 1)) * n1)) + s.f1)) - 1)) * n0)) + s.f0)) - 1)
def ixOk (n0 n1 : Int) (tb : List Int) (s : S23) : Bool := decide (0 ≤ ixS n0 n1 s) && decide (ixS n0 n1 s < (tb.length : Int))
def both (n0 n1 : Int) (tb : List Int) (c : Ct) : Int := wrap64 (rd tb (ixS n0 n1 c.l) + rd tb (ixS n0 n1 c.r))
def cutOk (n0 n1 kf : Int) (tb : List Int) (s : S23) : Bool := decide ((0 ≤ kf ∧ kf ≤ 1000) ∧ s.f0 ≤ 1000 ∧ s.f1 ≤ 1000 ∧ s.f2 ≤ 1000) && (cutsL kf s).all fun c => ixOk n0 n1 tb c.l && ixOk n0 n1 tb c.r
def cutv (n0 n1 kf : Int) (tb : List Int) (s : S23) (n : Int) : Option Int := if cutOk n0 n1 kf tb s = true then some ((cutsL kf s).foldl (fun n c => mx n (both n0 n1 tb c)) n) else none
/-- What a visit keeps of what was made from n on: all but the rows of nodes. -/
def Own (n : Nat) (W W' : World) : Prop := ∀ b cs t, n ≤ b → t ≠ 61 → W.heap[b]? = some (.cells cs t (0, 0)) → W'.heap[b]? = some (.cells cs t (0, 0))
theorem Own.refl (n : Nat) (W : World) : Own n W W := fun _ _ _ _ _ h => h
theorem Own.trans {n : Nat} {X Y Z : World} (h : Own n X Y) (k : Own n Y Z) : Own n X Z := fun b cs t hb ht e => k b cs t hb ht (h b cs t hb ht e)
theorem Own.mono {n m : Nat} {X Y : World} (h : Own n X Y) (hm : n ≤ m) : Own m X Y := fun b cs t hb ht e => h b cs t (Nat.le_trans hm hb) ht e
theorem Own.below {n : Nat} {X Y : World} (h : Below X.heap.size X Y) : Own n X Y := fun b cs t _ _ e => blk_below e h
theorem cutsA_step (kf : Int) (s : S23) (ax p : Int) (h1 : 1 ≤ p) (h2 : p + kf < getAx s ax) : (cutsA kf s ax).drop (p - 1).toNat = ⟨ax, p, setAx s ax p, setAx s ax (getAx s ax - p - kf)⟩ :: (cutsA kf s ax).drop p.toNat := by
  have hl : (p - 1).toNat < (cutsA kf s ax).length := by simp [cutsA]; omega
  rw [List.drop_eq_getElem_cons hl]
  have e : (p - 1).toNat + 1 = p.toNat := by omega
  rw [e]
  congr 1
  simp only [cutsA, List.getElem_map, List.getElem_range]
  have e2 : (((p - 1).toNat : Nat) : Int) + 1 = p := by omega
  rw [e2]
theorem cutsA_end (kf : Int) (s : S23) (ax p : Int) (h1 : 1 ≤ p) (h2 : ¬ p + kf < getAx s ax) : (cutsA kf s ax).drop (p - 1).toNat = [] := by
  apply List.drop_of_length_le
  simp [cutsA]
  omega
theorem wr_ {x : Int} (h0 : -9000000000000000000 ≤ x) (h1 : x ≤ 9000000000000000000) : wrap64 x = x := by unfold wrap64; omega
def boxpack_cuts.T5 : Bool × List (List Nat × List Nat) := (true, [([], []), ([], []), ([1], [1]), ([0, 2], [0, 2]), ([], []), ([4], [4]), ([5], [5]), ([3, 6], [3, 6])])
def boxpack_cuts.B5 : List Nat := [0, 0, 2, 7, 0, 16, 48, 127]
theorem boxpack_cuts.tab5 : rtab .any (opsOf Try.f48 5) = boxpack_cuts.T5 := by kernel_rfl
theorem boxpack_cuts.bits5 : waitsOk boxpack_cuts.T5.2 boxpack_cuts.B5 = true := by kernel_rfl
def boxpack_cuts.T8 : Bool × List (List Nat × List Nat) := (true, [([], []), ([], []), ([], []), ([], []), ([3], [3]), ([4], [4]), ([], []), ([5, 6], [5, 6]), ([], []), ([8], [8]), ([7, 9], [7, 9]), ([0, 0, 2], [0]), ([11, 2, 0, 2], [2, 11]), ([1, 0, 1, 2, 3, 4, 5, 6, 7, 8, 9, 10, 11, 12], [1]), ([13, 10, 12, 0, 1, 2, 3, 4, 5, 6, 7, 8, 9, 10, 11, 12], [10, 13])])
def boxpack_cuts.B8 : List Nat := [0, 0, 0, 0, 8, 24, 0, 120, 0, 256, 1016, 5, 2053, 8191, 16383]
theorem boxpack_cuts.tab8 : rtab .any (opsOf Try.f48 8) = boxpack_cuts.T8 := by kernel_rfl
theorem boxpack_cuts.bits8 : waitsOk boxpack_cuts.T8.2 boxpack_cuts.B8 = true := by kernel_rfl
abbrev I3 (s : S23) : Array Value := #[.int .i64 s.f0, .int .i64 s.f1, .int .i64 s.f2]
theorem dyn_cell {W : World} {g : Nat} {s : S23} (h : Aside0 (W.heap[g]? = some (.cells (I3 s) 64 (0, 0)))) {ax : Int} (ha : 0 ≤ ax ∧ ax ≤ 2) : W.cell? ⟨g, ax.toNat, none⟩ = some (.int .i64 (getAx s ax)) := by
  have h3 : ax = 0 ∨ ax = 1 ∨ ax = 2 := by omega
  rcases h3 with rfl | rfl | rfl
  · exact bc_ h 0
  · exact bc_ h 1
  exact bc_ h 2
theorem dyn_put {W : World} {g : Nat} {s : S23} (h : Aside0 (W.heap[g]? = some (.cells (I3 s) 64 (0, 0)))) {ax : Int} (ha : 0 ≤ ax ∧ ax ≤ 2) (v : Int) : Aside0 ((W.setCell ⟨g, ax.toNat, none⟩ (.int .i64 v)).heap[g]? = some (.cells (I3 (setAx s ax v)) 64 (0, 0))) := by
  have h3 : ax = 0 ∨ ax = 1 ∨ ax = 2 := by omega
  rcases h3 with rfl | rfl | rfl
  · exact ⟨blk_put h.1 0 _ rfl⟩
  · exact ⟨blk_put h.1 1 _ rfl⟩
  exact ⟨blk_put h.1 2 _ rfl⟩
theorem c1f_ {W : World} {g b i j : Nat} {u v : Value} (n : Aside0 (b ≠ g)) (h : W.cell? ⟨b, j, none⟩ = some v) : (W.setCell ⟨g, i, none⟩ u).cell? ⟨b, j, none⟩ = some v := (cell_far (p := ⟨g, _, none⟩) n.1 _).trans h
theorem c3f_ {W : World} {g b i0 i1 i2 j : Nat} {u0 u1 u2 v : Value} (n : Aside0 (b ≠ g)) (h : W.cell? ⟨b, j, none⟩ = some v) : (((W.setCell ⟨g, i0, none⟩ u0).setCell ⟨g, i1, none⟩ u1).setCell ⟨g, i2, none⟩ u2).cell? ⟨b, j, none⟩ = some v := c1f_ n (c1f_ n (c1f_ n h))
theorem bp3_ {W : World} {b : Nat} {t_ : TypeId} {z0 z1 z2 u0 u1 u2 : Value} (h : Aside0 (W.heap[b]? = some (.cells #[z0, z1, z2] t_ (0, 0)))) : Aside0 ((((W.setCell ⟨b, 0, none⟩ u0).setCell ⟨b, 1, none⟩ u1).setCell ⟨b, 2, none⟩ u2).heap[b]? = some (.cells #[u0, u1, u2] t_ (0, 0))) := ⟨blk_put (blk_put (blk_put h.1 0 _ rfl) 1 _ rfl) 2 _ rfl⟩
theorem goesLV_ {P : Program} {ops : Array Oper} {Q : Exit → Act → World → Prop} {rest : List Oper} {oi : Oper} {a : Act} {w : World} (N : Option Tmp) (hd : oi.dst = N) (hg : oi.guard = none) {f : FuncId} {fn : Func} {c : Operand} {as_ : Array Operand} {ts : Array TypeId}
    (hf : P.funcs[f]? = some fn) (hname : (fn.name == "runtime.NumGoroutine") = false) (hb : fn.body.isSome = true) (cap : Array Value) (args : Array Value)
    (hop : oi.op = .call { callee := .value c, args := as_, argTypes := ts }) (hc : a.eval c = .func (.func f) #[] cap) (hargs : as_.map a.eval ++ cap = args)
    (h : Calls P f args w fun e w' => ∃ v, e = .returned v ∧ wpList P ops Q rest (a.put N v) w') : wpList P ops Q (oi :: rest) a w := by
  refine wpList_plain hg fun K hK => ?_
  have he := enters_ hf hname hb args w
  have hrun : (execOp a.eval oi).run P w = .ok (.enter f args) w := by
    unfold execOp
    simp [hop, resolve, Deferred.ofValue, invoke, Act.eval] at hc hargs ⊢
    simp [hc, hargs, he, resolve, Deferred.ofValue, invoke]
  unfold Oper.wp
  rw [hrun, Oper.upon_enter]
  refine h.mono fun e w'' hh => ?_
  obtain ⟨v, rfl, hk⟩ := hh
  subst hd
  exact hK _ _ hk
/-- The cuts from one axis on. -/
def cutsR (kf : Int) (s : S23) (ax : Int) : List Ct := if ax = 0 then cutsL kf s else if ax = 1 then cutsA kf s 1 ++ cutsA kf s 2 else if ax = 2 then cutsA kf s 2 else []
theorem cutsR_step {kf : Int} {s : S23} {ax : Int} (h : 0 ≤ ax ∧ ax ≤ 2) : cutsR kf s ax = cutsA kf s ax ++ cutsR kf s (ax + 1) := by
  have h3 : ax = 0 ∨ ax = 1 ∨ ax = 2 := by omega
  rcases h3 with rfl | rfl | rfl
  · rfl
  · rfl
  exact (List.append_nil _).symm
set_option maxHeartbeats 8000000 in
set_option maxRecDepth 100000 in
theorem cuts.calls (G : FuncId) (caps : Array Value) (fn : Func) (hfn : Try.prog.funcs[G]? = some fn) (hname : (fn.name == "runtime.NumGoroutine") = false) (hbody : fn.body.isSome = true) (a0_0 a0_1 a0_2 a0_3 : Int) (A0_4 : Option Addr) (n0_4 c0_4 : Nat) (s : S23) (J JT : List Ct → World → Prop) (w : World) (hk0 : 0 ≤ a0_3) (hk1 : a0_3 ≤ 1000) (hs0 : ∀ ax, 0 ≤ ax ∧ ax ≤ 2 → getAx s ax ≤ 1000)
    (hJ : ∀ pre X Y, J pre X → Below X.heap.size X Y → J pre Y)
    (hV : ∀ pre c rest W, cutsL a0_3 s = pre ++ c :: rest → J pre W → Calls Try.prog G (#[.int .i64 c.ax, .int .i64 c.pos, .agg #[.int .i64 c.l.f0, .int .i64 c.l.f1, .int .i64 c.l.f2], .agg #[.int .i64 c.r.f0, .int .i64 c.r.f1, .int .i64 c.r.f2]] ++ caps) W fun e W' => ((e = .returned (.bool false) ∧ J (pre ++ [c]) W') ∨ (e = .returned (.bool true) ∧ JT (pre ++ [c]) W')) ∧ Own w.heap.size W W')
    (h0 : J [] w) :
    Calls Try.prog 48 #[.agg #[.int .i64 a0_0, .int .i64 a0_1, .int .i64 a0_2, .int .i64 a0_3, .slice A0_4 n0_4 c0_4], .agg #[.int .i64 s.f0, .int .i64 s.f1, .int .i64 s.f2], .func (.func G) #[] caps] w fun e w' => e = .returned (.tuple #[]) ∧ (J (cutsL a0_3 s) w' ∨ ∃ pre c rest, cutsL a0_3 s = pre ++ c :: rest ∧ JT (pre ++ [c]) w') := by
  have hu33 := Try.underlying33
  have hu64 := Try.underlying64
  have HB := ak (Below.refl w.heap.size w)
  go_enter Try.func48, Try.ntmps48
  go_wp2_with (first | ((with_reducible refine gate_dst (N := 3) rfl ?_); refine bx_ 3 #[.int .i64 a0_0, .int .i64 a0_1, .int .i64 a0_2, .int .i64 a0_3, .slice A0_4 n0_4 c0_4] 33 ?_; intro gb154 hg w4 hbox hb; have BK154 := ak (hbox); have GE154 := gw_ HB hg; replace HB := hs_ HB hb; clear hb hbox hg) | ((with_reducible refine gate_dst (N := 4) rfl ?_); refine bx_ 4 #[.int .i64 s.f0, .int .i64 s.f1, .int .i64 s.f2] 64 ?_; intro gb155 hg w5 hbox hb; have BK155 := ak (hbox); have GE155 := gw_ HB hg; replace HB := hs_ HB hb; have NB154_155 := nl_ BK154 hg; have NB155_154 := nr_ BK154 hg; replace BK154 := bb_ BK154 hb; clear hb hbox hg))
  go_loopg [10] 4 (fun kq v10 w' => ∃ (pre : List Ct) (ax : Int), J pre w' ∧ Aside0 (w'.heap[gb154]? = some (.cells #[.int .i64 a0_0, .int .i64 a0_1, .int .i64 a0_2, .int .i64 a0_3, .slice A0_4 n0_4 c0_4] 33 (0, 0))) ∧ Aside0 (w'.heap[gb155]? = some (.cells #[.int .i64 s.f0, .int .i64 s.f1, .int .i64 s.f2] 64 (0, 0))) ∧ v10 = .int .i64 ax ∧ (0 ≤ ax ∧ ax ≤ 3) ∧ (kq : Int) + ax = 4 ∧ cutsL a0_3 s = pre ++ cutsR a0_3 s ax)
  case atStart => exact ⟨[], 0, hJ [] w _ h0 (hb_ HB), ⟨bk_ BK154⟩, ⟨bk_ BK155⟩, rfl, by decide, by decide, rfl⟩
  clear HB
  obtain ⟨pre0, ax, hj0, BK154, BK155, rfl, hax3, hkq0, hcl⟩ := hrel
  clear NB154_155 NB155_154
  by_cases hx3 : ax < 3
  · have c3b0 := decide_eq_true hx3
    obtain ⟨k0, hgk⟩ : ∃ k0, gk = k0 + 1 := ⟨gk - 1, by omega⟩
    subst hgk
    have hax : 0 ≤ ax ∧ ax ≤ 2 := by omega
    have hs1 := hs0 ax hax
    have hr0 : cutsL a0_3 s = pre0 ++ ((cutsA a0_3 s ax).drop ((1 : Int) - 1).toNat ++ cutsR a0_3 s (ax + 1)) := by rw [hcl, cutsR_step hax]; rfl
    clear hcl
    go_wp2
    go_loopg [7] ((getAx s ax).toNat + 1) (fun kq v7 w' => ∃ (pre : List Ct) (x7 : Int), v7 = .int .i64 x7 ∧ 1 ≤ x7 ∧ x7 ≤ 1001 ∧ ((kq : Int) + x7 = getAx s ax + 2 ∨ getAx s ax < x7) ∧ cutsL a0_3 s = pre ++ ((cutsA a0_3 s ax).drop (x7 - 1).toNat ++ cutsR a0_3 s (ax + 1)) ∧ J pre w' ∧ Aside0 (w'.heap[gb154]? = some (.cells #[.int .i64 a0_0, .int .i64 a0_1, .int .i64 a0_2, .int .i64 a0_3, .slice A0_4 n0_4 c0_4] 33 (0, 0))) ∧ Aside0 (w'.heap[gb155]? = some (.cells #[.int .i64 s.f0, .int .i64 s.f1, .int .i64 s.f2] 64 (0, 0))))
    case atStart => exact ⟨pre0, 1, rfl, by omega, by omega, by omega, hr0, hj0, ⟨bk_ BK154⟩, ⟨bk_ BK155⟩⟩
    clear hj0 hr0 pre0 BK154 BK155
    obtain ⟨pre1, x7, rfl, hx1, hx2, hkq, hcl, hj1, BK154, BK155⟩ := hrel
    by_cases hc : x7 + a0_3 < getAx s ax
    · have hw0 : wrap64 (x7 + a0_3) = x7 + a0_3 := wr_ (by omega) (by omega)
      have hc0 : decide (wrap64 (x7 + a0_3) < getAx s ax) = true := by rw [hw0]; exact decide_eq_true hc
      go_wp2
      have hj2 := hJ pre1 wr wr.drew hj1 (below_drew1 (Below.refl _ _))
      replace BK154 := ak (blk_drew BK154.1); replace BK155 := ak (blk_drew BK155.1)
      refine start_ (n := 8) (S := fun w' => w'.cell? ⟨gb154, 3, none⟩ = some (.int .i64 a0_3) ∧ w'.cell? ⟨gb155, ax.toNat, none⟩ = some (.int .i64 (getAx s ax))) (ds := []) (bm 8 0) (by kernel_rfl) rfl rfl ⟨bc_ BK154 3, dyn_cell BK155 hax⟩ (fun hHeld => ?_); refine with_tabW boxpack_cuts.tab5 boxpack_cuts.bits5 (fun HT_ HW_ => ?_)
      generalize wr.drew = w9 at hj2 BK154 BK155 hHeld ⊢
      clear hj1
      have pa_ := eq_true hax.1
      have qa_ : (ax < 3) = True := eq_true (by omega)
      refine pv_ 0 HT_ ?_; refine pv_ 1 HT_ ?_; refine pv_ 4 HT_ ?_; refine pv_ 5 HT_ ?_; refine tv_ 2 HT_ HW_ hHeld ?_; refine pv_ 3 HT_ ?_; refine tv_ 6 HT_ HW_ hHeld ?_; refine pv_ 7 HT_ ?_; (refine done_ (done_of HT_.1 (by kernel_rfl)) ?_)
      go_wp2
      have hw1 : (wrap64 ((wrap64 (getAx s ax - x7)) - a0_3)) = getAx s ax - x7 - a0_3 := by rw [wr_ (x := getAx s ax - x7) (by omega) (by omega)]; exact wr_ (by omega) (by omega)
      rw [cutsA_step a0_3 s ax x7 hx1 hc, ← hw1] at hcl
      have hv := fun W hjW => hV pre1 _ _ W hcl hjW
      dsimp only at hv
      clear hw1
      have hj3 := hJ pre1 w9 w9.drew hj2 (below_drew1 (Below.refl _ _))
      clear hj2 hHeld HT_ HW_
      replace BK154 := ak (blk_drew BK154.1); replace BK155 := ak (blk_drew BK155.1)
      refine start_ (n := 6) (S := fun w' => w'.cell? ⟨gb155, 0, none⟩ = some (.int .i64 s.f0) ∧ w'.cell? ⟨gb155, 1, none⟩ = some (.int .i64 s.f1) ∧ w'.cell? ⟨gb155, 2, none⟩ = some (.int .i64 s.f2)) (ds := []) (bm 6 0) (by kernel_rfl) rfl rfl ⟨bc_ BK155 0, bc_ BK155 1, bc_ BK155 2⟩ (fun hHeld => ?_)
      generalize w9.drew = wb at hj3 BK154 BK155 hHeld ⊢
      have HB := ak (Below.refl wb.heap.size wb)
      refine tq_ 0 23 (bm 6 1) hHeld ?_
      refine tq_ 1 24 (bm 6 3) hHeld ?_
      refine join_ (σ := Nat × Nat) 2 (bm 6 15) (fun s_ => [(8, .pointer (some ⟨s_.1, 0, none⟩)), (9, .pointer (some ⟨s_.2, 0, none⟩))]) (fun s_ w' => (w'.cell? ⟨gb155, 0, none⟩ = some (.int .i64 s.f0) ∧ w'.cell? ⟨gb155, 1, none⟩ = some (.int .i64 s.f1) ∧ w'.cell? ⟨gb155, 2, none⟩ = some (.int .i64 s.f2)) ∧ (w'.heap[gb154]? = some (.cells #[.int .i64 a0_0, .int .i64 a0_1, .int .i64 a0_2, .int .i64 a0_3, .slice A0_4 n0_4 c0_4] 33 (0, 0))) ∧ (w'.heap[gb155]? = some (.cells #[.int .i64 s.f0, .int .i64 s.f1, .int .i64 s.f2] 64 (0, 0))) ∧ (w'.heap[s_.1]? = some (.cells #[.int .i64 0, .int .i64 0, .int .i64 0] 64 (0, 0))) ∧ (w'.heap[s_.2]? = some (.cells #[.int .i64 0, .int .i64 0, .int .i64 0] 64 (0, 0))) ∧ (gb154 ≠ s_.1) ∧ (gb155 ≠ s_.1) ∧ (gb154 ≠ s_.2) ∧ (gb155 ≠ s_.2) ∧ (s_.1 ≠ s_.2) ∧ (Below wb.heap.size wb w') ∧ (wb.heap.size ≤ s_.1) ∧ (wb.heap.size ≤ s_.2)) ?_ ?_
      rotate_left
      · intro hCont
        refine two_ (i := 2) (j := 3) (Ni := some 8) (Nj := some 9) (bm 6 7) (bm 6 11) rfl rfl rfl rfl (by kernel_rfl) (by decide) (by decide) (fun K hK => ?_) (fun K hK => ?_)
        · skip
          refine bt_ 8 #[.int .i64 0, .int .i64 0, .int .i64 0] 64 ?_
          intro gb156 hg ww1 hbox hb
          have BK156 := ak (hbox); have GE156 := gw_ HB hg; replace HB := hs_ HB hb
          have NB154_156 := nl_ BK154 hg; have NB156_154 := nr_ BK154 hg; replace BK154 := bb_ BK154 hb; have NB155_156 := nl_ BK155 hg; have NB156_155 := nr_ BK155 hg; replace BK155 := bb_ BK155 hb
          clear hb hbox hg
          (refine hK.out _ _ ⟨bc_ BK155 0, bc_ BK155 1, bc_ BK155 2⟩ (fun hHeld => ?_)); clear hK K; refine nv_ ?_
          (refine one_ (i := 3) (N := some 9) (bm 6 15) rfl rfl (by kernel_rfl) (by decide) (fun K hK => ?_))
          refine bt_ 9 #[.int .i64 0, .int .i64 0, .int .i64 0] 64 ?_
          intro gb157 hg ww2 hbox hb
          have BK157 := ak (hbox); have GE157 := gw_ HB hg; replace HB := hs_ HB hb
          have NB154_157 := nl_ BK154 hg; have NB157_154 := nr_ BK154 hg; replace BK154 := bb_ BK154 hb; have NB155_157 := nl_ BK155 hg; have NB157_155 := nr_ BK155 hg; replace BK155 := bb_ BK155 hb; have NB156_157 := nl_ BK156 hg; have NB157_156 := nr_ BK156 hg; replace BK156 := bb_ BK156 hb
          clear hb hbox hg
          (refine hK.out _ _ ⟨bc_ BK155 0, bc_ BK155 1, bc_ BK155 2⟩ (fun hHeld => ?_)); clear hK K; refine nv_ ?_
          (exact norm_ (by simp only [putAll, Act.put, List.setIfInBounds_toArray, List.set_cons_zero, List.set_cons_succ]) (hCont (gb156, gb157) _ ⟨hHeld, BK154.1, BK155.1, BK156.1, BK157.1, NB154_156.1, NB155_156.1, NB154_157.1, NB155_157.1, NB156_157.1, HB.1, GE156.1, GE157.1⟩))
        skip
        refine bt_ 9 #[.int .i64 0, .int .i64 0, .int .i64 0] 64 ?_
        intro gb157 hg ww1 hbox hb
        have BK157 := ak (hbox); have GE157 := gw_ HB hg; replace HB := hs_ HB hb
        have NB154_157 := nl_ BK154 hg; have NB157_154 := nr_ BK154 hg; replace BK154 := bb_ BK154 hb; have NB155_157 := nl_ BK155 hg; have NB157_155 := nr_ BK155 hg; replace BK155 := bb_ BK155 hb
        clear hb hbox hg
        (refine hK.out _ _ ⟨bc_ BK155 0, bc_ BK155 1, bc_ BK155 2⟩ (fun hHeld => ?_)); clear hK K; refine nv_ ?_
        (refine one_ (i := 2) (N := some 8) (bm 6 15) rfl rfl (by kernel_rfl) (by decide) (fun K hK => ?_))
        refine bt_ 8 #[.int .i64 0, .int .i64 0, .int .i64 0] 64 ?_
        intro gb156 hg ww2 hbox hb
        have BK156 := ak (hbox); have GE156 := gw_ HB hg; replace HB := hs_ HB hb
        have NB154_156 := nl_ BK154 hg; have NB156_154 := nr_ BK154 hg; replace BK154 := bb_ BK154 hb; have NB155_156 := nl_ BK155 hg; have NB156_155 := nr_ BK155 hg; replace BK155 := bb_ BK155 hb; have NB157_156 := nl_ BK157 hg; have NB156_157 := nr_ BK157 hg; replace BK157 := bb_ BK157 hb
        clear hb hbox hg
        (refine hK.out _ _ ⟨bc_ BK155 0, bc_ BK155 1, bc_ BK155 2⟩ (fun hHeld => ?_)); clear hK K; refine nv_ ?_
        (exact norm_ (by simp only [putAll, Act.put, List.setIfInBounds_toArray, List.set_cons_zero, List.set_cons_succ]) (hCont (gb156, gb157) _ ⟨hHeld, BK154.1, BK155.1, BK156.1, BK157.1, NB154_156.1, NB155_156.1, NB154_157.1, NB155_157.1, NB156_157.1, HB.1, GE156.1, GE157.1⟩))
      clear HB hHeld BK154 BK155
      rintro ⟨gb156, gb157⟩ w21 ⟨hHeld, h0_, h1_, h2_, h3_, h4_, h5_, h6_, h7_, h8_, h9_, h10_, h11_⟩
      have BK154 := ak h0_; have BK155 := ak h1_; have BK156 := ak h2_; have BK157 := ak h3_; have NB154_156 := ak h4_; have NB155_156 := ak h5_; have NB154_157 := ak h6_; have NB155_157 := ak h7_; have NB156_157 := ak h8_; have NB157_156 := ak h8_.symm; have HB := ak h9_; have GE156 := ak h10_; have GE157 := ak h11_
      clear h0_ h1_ h2_ h3_ h4_ h5_ h6_ h7_ h8_ h9_ h10_ h11_
      refine norm_ (a' := ?_) ?_ ?_
      rotate_left
      · simp only [putAll, Act.put, List.setIfInBounds_toArray, List.set_cons_zero, List.set_cons_succ]
        rfl
      refine one_ (i := 4) (N := none) (bm 6 31) rfl rfl (by kernel_rfl) (by decide) (fun K hK => ?_)
      obtain ⟨hcx_0, hcx_1, hcx_2, hfx_0, hfx_1, hfx_2⟩ := cz3_ BK156
      (refine skip_ (w1 := (((w21.setCell ⟨gb156, 0, none⟩ (.int .i64 s.f0)).setCell ⟨gb156, 1, none⟩ (.int .i64 s.f1)).setCell ⟨gb156, 2, none⟩ (.int .i64 s.f2))) (by rfl) rfl ?_ ?_)
      · ((go_simp; done))
      refine hK.out _ _ ⟨c3f_ NB155_156 hHeld.1, c3f_ NB155_156 hHeld.2.1, c3f_ NB155_156 hHeld.2.2⟩ (fun hHeld => ?_)
      clear hK K hcx_0 hcx_1 hcx_2 hfx_0 hfx_1 hfx_2
      have n154_ : Aside0 ((((w21.setCell ⟨gb156, 0, none⟩ (.int .i64 s.f0)).setCell ⟨gb156, 1, none⟩ (.int .i64 s.f1)).setCell ⟨gb156, 2, none⟩ (.int .i64 s.f2)).heap[gb154]? = some (.cells #[.int .i64 a0_0, .int .i64 a0_1, .int .i64 a0_2, .int .i64 a0_3, .slice A0_4 n0_4 c0_4] 33 (0, 0))) := ⟨bf3_ BK154 NB154_156⟩
      have n155_ : Aside0 ((((w21.setCell ⟨gb156, 0, none⟩ (.int .i64 s.f0)).setCell ⟨gb156, 1, none⟩ (.int .i64 s.f1)).setCell ⟨gb156, 2, none⟩ (.int .i64 s.f2)).heap[gb155]? = some (.cells #[.int .i64 s.f0, .int .i64 s.f1, .int .i64 s.f2] 64 (0, 0))) := ⟨bf3_ BK155 NB155_156⟩
      have n157_ : Aside0 ((((w21.setCell ⟨gb156, 0, none⟩ (.int .i64 s.f0)).setCell ⟨gb156, 1, none⟩ (.int .i64 s.f1)).setCell ⟨gb156, 2, none⟩ (.int .i64 s.f2)).heap[gb157]? = some (.cells #[.int .i64 0, .int .i64 0, .int .i64 0] 64 (0, 0))) := ⟨bf3_ BK157 NB157_156⟩
      have n156_ : Aside0 ((((w21.setCell ⟨gb156, 0, none⟩ (.int .i64 s.f0)).setCell ⟨gb156, 1, none⟩ (.int .i64 s.f1)).setCell ⟨gb156, 2, none⟩ (.int .i64 s.f2)).heap[gb156]? = some (.cells #[.int .i64 s.f0, .int .i64 s.f1, .int .i64 s.f2] 64 (0, 0))) := bp3_ BK156
      have nHB_ : Aside0 (Below wb.heap.size wb (((w21.setCell ⟨gb156, 0, none⟩ (.int .i64 s.f0)).setCell ⟨gb156, 1, none⟩ (.int .i64 s.f1)).setCell ⟨gb156, 2, none⟩ (.int .i64 s.f2))) := ⟨hb_ HB⟩
      clear BK154 BK155 BK157 BK156 HB
      generalize (((w21.setCell ⟨gb156, 0, none⟩ (.int .i64 s.f0)).setCell ⟨gb156, 1, none⟩ (.int .i64 s.f1)).setCell ⟨gb156, 2, none⟩ (.int .i64 s.f2)) = w22 at n154_ n155_ n157_ n156_ nHB_ hHeld ⊢
      have BK154 := n154_; have BK155 := n155_; have BK157 := n157_; have BK156 := n156_; have HB := nHB_
      clear n154_ n155_ n157_ n156_ nHB_
      refine one_ (i := 5) (N := none) (bm 6 63) rfl rfl (by kernel_rfl) (by decide) (fun K hK => ?_)
      obtain ⟨hcx_0, hcx_1, hcx_2, hfx_0, hfx_1, hfx_2⟩ := cz3_ BK157
      (refine skip_ (w1 := (((w22.setCell ⟨gb157, 0, none⟩ (.int .i64 s.f0)).setCell ⟨gb157, 1, none⟩ (.int .i64 s.f1)).setCell ⟨gb157, 2, none⟩ (.int .i64 s.f2))) (by rfl) rfl ?_ ?_)
      · ((go_simp; done))
      refine hK.out _ _ ⟨c3f_ NB155_157 hHeld.1, c3f_ NB155_157 hHeld.2.1, c3f_ NB155_157 hHeld.2.2⟩ (fun hHeld => ?_)
      clear hK K hcx_0 hcx_1 hcx_2 hfx_0 hfx_1 hfx_2
      have n154_ : Aside0 ((((w22.setCell ⟨gb157, 0, none⟩ (.int .i64 s.f0)).setCell ⟨gb157, 1, none⟩ (.int .i64 s.f1)).setCell ⟨gb157, 2, none⟩ (.int .i64 s.f2)).heap[gb154]? = some (.cells #[.int .i64 a0_0, .int .i64 a0_1, .int .i64 a0_2, .int .i64 a0_3, .slice A0_4 n0_4 c0_4] 33 (0, 0))) := ⟨bf3_ BK154 NB154_157⟩
      have n155_ : Aside0 ((((w22.setCell ⟨gb157, 0, none⟩ (.int .i64 s.f0)).setCell ⟨gb157, 1, none⟩ (.int .i64 s.f1)).setCell ⟨gb157, 2, none⟩ (.int .i64 s.f2)).heap[gb155]? = some (.cells #[.int .i64 s.f0, .int .i64 s.f1, .int .i64 s.f2] 64 (0, 0))) := ⟨bf3_ BK155 NB155_157⟩
      have n156_ : Aside0 ((((w22.setCell ⟨gb157, 0, none⟩ (.int .i64 s.f0)).setCell ⟨gb157, 1, none⟩ (.int .i64 s.f1)).setCell ⟨gb157, 2, none⟩ (.int .i64 s.f2)).heap[gb156]? = some (.cells #[.int .i64 s.f0, .int .i64 s.f1, .int .i64 s.f2] 64 (0, 0))) := ⟨bf3_ BK156 NB156_157⟩
      have n157_ : Aside0 ((((w22.setCell ⟨gb157, 0, none⟩ (.int .i64 s.f0)).setCell ⟨gb157, 1, none⟩ (.int .i64 s.f1)).setCell ⟨gb157, 2, none⟩ (.int .i64 s.f2)).heap[gb157]? = some (.cells #[.int .i64 s.f0, .int .i64 s.f1, .int .i64 s.f2] 64 (0, 0))) := bp3_ BK157
      have nHB_ : Aside0 (Below wb.heap.size wb (((w22.setCell ⟨gb157, 0, none⟩ (.int .i64 s.f0)).setCell ⟨gb157, 1, none⟩ (.int .i64 s.f1)).setCell ⟨gb157, 2, none⟩ (.int .i64 s.f2))) := ⟨hb_ HB⟩
      clear BK154 BK155 BK156 BK157 HB
      generalize (((w22.setCell ⟨gb157, 0, none⟩ (.int .i64 s.f0)).setCell ⟨gb157, 1, none⟩ (.int .i64 s.f1)).setCell ⟨gb157, 2, none⟩ (.int .i64 s.f2)) = w28 at n154_ n155_ n156_ n157_ nHB_ hHeld ⊢
      have BK154 := n154_; have BK155 := n155_; have BK156 := n156_; have BK157 := n157_; have HB := nHB_
      clear n154_ n155_ n156_ n157_ nHB_
      refine done_ (by kernel_rfl) ?_
      try go_wp2
      clear hHeld
      replace BK154 := ak (blk_drew BK154.1); replace BK155 := ak (blk_drew BK155.1); replace BK156 := ak (blk_drew BK156.1); replace BK157 := ak (blk_drew BK157.1); replace HB := ak (below_drew1 HB.1)
      refine start_ (n := 15) (S := fun w' => w'.cell? ⟨gb154, 3, none⟩ = some (.int .i64 a0_3) ∧ w'.cell? ⟨gb155, ax.toNat, none⟩ = some (.int .i64 (getAx s ax))) (ds := []) (bm 15 0) (by kernel_rfl) rfl rfl ⟨bc_ BK154 3, dyn_cell BK155 hax⟩ (fun hHeld => ?_); refine with_tabW boxpack_cuts.tab8 boxpack_cuts.bits8 (fun HT_ HW_ => ?_)
      generalize w28.drew = w29 at BK154 BK155 BK156 BK157 HB hHeld ⊢
      refine pv_ 0 HT_ ?_; refine pv_ 1 HT_ ?_; refine pv_ 2 HT_ ?_; refine pv_ 3 HT_ ?_; refine pv_ 4 HT_ ?_; refine pv_ 6 HT_ ?_; refine pv_ 8 HT_ ?_; refine pv_ 11 HT_ ?_; refine tv_ 5 HT_ HW_ hHeld ?_; refine pv_ 7 HT_ ?_; refine tv_ 9 HT_ HW_ hHeld ?_; refine pv_ 10 HT_ ?_
      refine one_ (i := 12) (N := none) (bm 15 8191) rfl rfl (one_of HT_.1 (by kernel_rfl)) (by decide) (fun K hK => ?_)
      have hcx_ := dyn_cell BK156 hax
      have hfx_ := blk_frozen BK156.1 ax.toNat
      (refine skip_ (w1 := (w29.setCell ⟨gb156, ax.toNat, none⟩ (.int .i64 x7))) (by rfl) rfl ?_ ?_)
      · ((go_simp; done))
      refine hK.out _ _ ⟨c1f_ NB154_156 hHeld.1, c1f_ NB155_156 hHeld.2⟩ (fun hHeld => ?_)
      clear hK K hcx_ hfx_
      have n154_ : Aside0 ((w29.setCell ⟨gb156, ax.toNat, none⟩ (.int .i64 x7)).heap[gb154]? = some (.cells #[.int .i64 a0_0, .int .i64 a0_1, .int .i64 a0_2, .int .i64 a0_3, .slice A0_4 n0_4 c0_4] 33 (0, 0))) := ⟨bf1_ BK154 NB154_156⟩
      have n155_ : Aside0 ((w29.setCell ⟨gb156, ax.toNat, none⟩ (.int .i64 x7)).heap[gb155]? = some (.cells #[.int .i64 s.f0, .int .i64 s.f1, .int .i64 s.f2] 64 (0, 0))) := ⟨bf1_ BK155 NB155_156⟩
      have n157_ : Aside0 ((w29.setCell ⟨gb156, ax.toNat, none⟩ (.int .i64 x7)).heap[gb157]? = some (.cells #[.int .i64 s.f0, .int .i64 s.f1, .int .i64 s.f2] 64 (0, 0))) := ⟨bf1_ BK157 NB157_156⟩
      have n156_ : Aside0 ((w29.setCell ⟨gb156, ax.toNat, none⟩ (.int .i64 x7)).heap[gb156]? = some (.cells (I3 (setAx s ax x7)) 64 (0, 0))) := dyn_put BK156 hax x7
      have nHB_ : Aside0 (Below wb.heap.size wb (w29.setCell ⟨gb156, ax.toNat, none⟩ (.int .i64 x7))) := ⟨hb_ HB⟩
      clear BK154 BK155 BK157 BK156 HB
      generalize (w29.setCell ⟨gb156, ax.toNat, none⟩ (.int .i64 x7)) = w29b at n154_ n155_ n157_ n156_ nHB_ hHeld ⊢
      have BK154 := n154_; have BK155 := n155_; have BK157 := n157_; have BK156 := n156_; have HB := nHB_
      clear n154_ n155_ n157_ n156_ nHB_
      refine pv_ 13 HT_ ?_
      refine one_ (i := 14) (N := none) (bm 15 32767) rfl rfl (one_of HT_.1 (by kernel_rfl)) (by decide) (fun K hK => ?_)
      have hcx_ := dyn_cell BK157 hax
      have hfx_ := blk_frozen BK157.1 ax.toNat
      (refine skip_ (w1 := (w29b.setCell ⟨gb157, ax.toNat, none⟩ (.int .i64 (wrap64 ((wrap64 (getAx s ax - x7)) - a0_3))))) (by rfl) rfl ?_ ?_)
      · ((go_simp; done))
      refine hK.out _ _ ⟨c1f_ NB154_157 hHeld.1, c1f_ NB155_157 hHeld.2⟩ (fun hHeld => ?_)
      clear hK K hcx_ hfx_
      have n154_ : Aside0 ((w29b.setCell ⟨gb157, ax.toNat, none⟩ (.int .i64 (wrap64 ((wrap64 (getAx s ax - x7)) - a0_3)))).heap[gb154]? = some (.cells #[.int .i64 a0_0, .int .i64 a0_1, .int .i64 a0_2, .int .i64 a0_3, .slice A0_4 n0_4 c0_4] 33 (0, 0))) := ⟨bf1_ BK154 NB154_157⟩
      have n155_ : Aside0 ((w29b.setCell ⟨gb157, ax.toNat, none⟩ (.int .i64 (wrap64 ((wrap64 (getAx s ax - x7)) - a0_3)))).heap[gb155]? = some (.cells #[.int .i64 s.f0, .int .i64 s.f1, .int .i64 s.f2] 64 (0, 0))) := ⟨bf1_ BK155 NB155_157⟩
      have n156_ : Aside0 ((w29b.setCell ⟨gb157, ax.toNat, none⟩ (.int .i64 (wrap64 ((wrap64 (getAx s ax - x7)) - a0_3)))).heap[gb156]? = some (.cells (I3 (setAx s ax x7)) 64 (0, 0))) := ⟨bf1_ BK156 NB156_157⟩
      have n157_ : Aside0 ((w29b.setCell ⟨gb157, ax.toNat, none⟩ (.int .i64 (wrap64 ((wrap64 (getAx s ax - x7)) - a0_3)))).heap[gb157]? = some (.cells (I3 (setAx s ax (wrap64 ((wrap64 (getAx s ax - x7)) - a0_3)))) 64 (0, 0))) := dyn_put BK157 hax (wrap64 ((wrap64 (getAx s ax - x7)) - a0_3))
      have nHB_ : Aside0 (Below wb.heap.size wb (w29b.setCell ⟨gb157, ax.toNat, none⟩ (.int .i64 (wrap64 ((wrap64 (getAx s ax - x7)) - a0_3))))) := ⟨hb_ HB⟩
      clear BK154 BK155 BK156 BK157 HB
      generalize (w29b.setCell ⟨gb157, ax.toNat, none⟩ (.int .i64 (wrap64 ((wrap64 (getAx s ax - x7)) - a0_3)))) = w30 at n154_ n155_ n156_ n157_ nHB_ hHeld ⊢
      have BK154 := n154_; have BK155 := n155_; have BK156 := n156_; have BK157 := n157_; have HB := nHB_
      clear n154_ n155_ n156_ n157_ nHB_
      refine done_ (done_of HT_.1 (by kernel_rfl)) ?_
      have hj4 := hJ pre1 wb w30 hj3 HB.1
      clear hj3 hHeld
      obtain ⟨hcz38_0, hcz38_1, hcz38_2, hfz38_0, hfz38_1, hfz38_2⟩ := cz3_ BK156
      obtain ⟨hcz44_0, hcz44_1, hcz44_2, hfz44_0, hfz44_1, hfz44_2⟩ := cz3_ BK157
      go_wp2_with (first | ((with_reducible refine gate_dst (N := 43) rfl ?_); refine goesLV_ (some 43) rfl rfl hfn hname hbody caps (#[.int .i64 ax, .int .i64 x7, .agg #[.int .i64 (setAx s ax x7).f0, .int .i64 (setAx s ax x7).f1, .int .i64 (setAx s ax x7).f2], .agg #[.int .i64 (setAx s ax (wrap64 ((wrap64 (getAx s ax - x7)) - a0_3))).f0, .int .i64 (setAx s ax (wrap64 ((wrap64 (getAx s ax - x7)) - a0_3))).f1, .int .i64 (setAx s ax (wrap64 ((wrap64 (getAx s ax - x7)) - a0_3))).f2]] ++ caps) rfl rfl am_ ?_; (with_reducible refine (hv _ hj4).mono ?_); rintro e w45 ⟨hres, hown⟩; replace BK154 := ak (hown _ _ _ GE154.1 (by decide) BK154.1); replace BK155 := ak (hown _ _ _ GE155.1 (by decide) BK155.1); clear hown; rcases hres with ⟨rfl, hj5⟩ | ⟨rfl, hj5⟩ <;> refine ⟨_, rfl, ?_⟩))
      · have hw2 : wrap64 (x7 + 1) = x7 + 1 := wr_ (by omega) (by omega)
        try go_wp2
        cases gk with
        | zero => omega
        | succ k1 =>
          go_roundg k1
          case measure => omega
          case rel => exact ⟨pre1 ++ [⟨ax, x7, (setAx s ax x7), (setAx s ax (wrap64 ((wrap64 (getAx s ax - x7)) - a0_3)))⟩], x7 + 1, by rfl, by omega, by omega, by omega, by rw [hcl, List.append_assoc, show x7 + 1 - 1 = x7 by omega]; rfl, hj5, ⟨bk_ BK154⟩, ⟨bk_ BK155⟩⟩
      try go_wp2
      refine bodyPost_ret (results_none rfl _ _ _) rfl ?_
      exact ⟨rfl, .inr ⟨pre1, _, _, hcl, hj5⟩⟩
    have hw0 : wrap64 (x7 + a0_3) = x7 + a0_3 := wr_ (by omega) (by omega)
    have hc0 : decide (wrap64 (x7 + a0_3) < getAx s ax) = false := by rw [hw0]; exact decide_eq_false hc
    rw [cutsA_end a0_3 s ax x7 hx1 hc, List.nil_append] at hcl
    go_wp2
    have hj2 := hJ pre1 wr wr.drew hj1 (below_drew1 (Below.refl _ _))
    replace BK154 := ak (blk_drew BK154.1); replace BK155 := ak (blk_drew BK155.1)
    refine start_ (n := 8) (S := fun w' => w'.cell? ⟨gb154, 3, none⟩ = some (.int .i64 a0_3) ∧ w'.cell? ⟨gb155, ax.toNat, none⟩ = some (.int .i64 (getAx s ax))) (ds := []) (bm 8 0) (by kernel_rfl) rfl rfl ⟨bc_ BK154 3, dyn_cell BK155 hax⟩ (fun hHeld => ?_); refine with_tabW boxpack_cuts.tab5 boxpack_cuts.bits5 (fun HT_ HW_ => ?_)
    generalize wr.drew = w9 at hj2 BK154 BK155 hHeld ⊢
    clear hj1
    have pa_ := eq_true hax.1
    have qa_ : (ax < 3) = True := eq_true (by omega)
    refine pv_ 0 HT_ ?_; refine pv_ 1 HT_ ?_; refine pv_ 4 HT_ ?_; refine pv_ 5 HT_ ?_; refine tv_ 2 HT_ HW_ hHeld ?_; refine pv_ 3 HT_ ?_; refine tv_ 6 HT_ HW_ hHeld ?_; refine pv_ 7 HT_ ?_; (refine done_ (done_of HT_.1 (by kernel_rfl)) ?_)
    go_wp2
    have hw3 : wrap64 (ax + 1) = ax + 1 := wr_ (by omega) (by omega)
    go_roundg k0
    case measure => omega
    case rel => exact ⟨pre1, ax + 1, hj2, ⟨bk_ BK154⟩, ⟨bk_ BK155⟩, by rfl, by omega, by omega, hcl⟩
  have c3b0 := decide_eq_false hx3
  have hax4 : ax = 3 := by omega
  rw [hax4, show cutsR a0_3 s 3 = [] from rfl, List.append_nil] at hcl
  go_wp2
  go_end0
  exact ⟨rfl, .inl (by exact hj0)⟩
theorem cuts62.calls (a0_0 a0_1 a0_2 a0_3 : Int) (A0_4 : Option Addr) (n0_4 c0_4 : Nat) (a1_0 a1_1 a1_2 : Int) (g16 g17 g18 : Nat) (J JT : List Ct → World → Prop) (w : World) (hk0 : 0 ≤ a0_3) (hk1 : a0_3 ≤ 1000) (hs0 : a1_0 ≤ 1000) (hs1 : a1_1 ≤ 1000) (hs2 : a1_2 ≤ 1000)
    (hJ : ∀ pre X Y, J pre X → Below X.heap.size X Y → J pre Y)
    (hV : ∀ pre c rest W, cutsL a0_3 ⟨a1_0, a1_1, a1_2⟩ = pre ++ c :: rest → J pre W → Calls Try.prog 62 #[.int .i64 c.ax, .int .i64 c.pos, .agg #[.int .i64 c.l.f0, .int .i64 c.l.f1, .int .i64 c.l.f2], .agg #[.int .i64 c.r.f0, .int .i64 c.r.f1, .int .i64 c.r.f2], .pointer (some ⟨g16, 0, none⟩), .pointer (some ⟨g17, 0, none⟩), .pointer (some ⟨g18, 0, none⟩)] W fun e W' => ((e = .returned (.bool false) ∧ J (pre ++ [c]) W') ∨ (e = .returned (.bool true) ∧ JT (pre ++ [c]) W')) ∧ Own w.heap.size W W')
    (h0 : J [] w) :
    Calls Try.prog 48 #[.agg #[.int .i64 a0_0, .int .i64 a0_1, .int .i64 a0_2, .int .i64 a0_3, .slice A0_4 n0_4 c0_4], .agg #[.int .i64 a1_0, .int .i64 a1_1, .int .i64 a1_2], .func (.func 62) #[] #[.pointer (some ⟨g16, 0, none⟩), .pointer (some ⟨g17, 0, none⟩), .pointer (some ⟨g18, 0, none⟩)]] w fun e w' => e = .returned (.tuple #[]) ∧ (J (cutsL a0_3 ⟨a1_0, a1_1, a1_2⟩) w' ∨ ∃ pre c rest, cutsL a0_3 ⟨a1_0, a1_1, a1_2⟩ = pre ++ c :: rest ∧ JT (pre ++ [c]) w') :=
  cuts.calls 62 #[.pointer (some ⟨g16, 0, none⟩), .pointer (some ⟨g17, 0, none⟩), .pointer (some ⟨g18, 0, none⟩)] _ Try.func62 (by kernel_rfl) rfl a0_0 a0_1 a0_2 a0_3 A0_4 n0_4 c0_4 ⟨a1_0, a1_1, a1_2⟩ J JT w hk0 hk1 (fun ax h => by
    have h3 : ax = 0 ∨ ax = 1 ∨ ax = 2 := by omega
    rcases h3 with rfl | rfl | rfl
    · exact hs0
    · exact hs1
    exact hs2) hJ hV h0
theorem cuts49.calls (a0_0 a0_1 a0_2 a0_3 : Int) (A0_4 : Option Addr) (n0_4 c0_4 : Nat) (a1_0 a1_1 a1_2 : Int) (g16 g24 gB g32 gF gU : Nat) (J JT : List Ct → World → Prop) (w : World) (hk0 : 0 ≤ a0_3) (hk1 : a0_3 ≤ 1000) (hs0 : a1_0 ≤ 1000) (hs1 : a1_1 ≤ 1000) (hs2 : a1_2 ≤ 1000)
    (hJ : ∀ pre X Y, J pre X → Below X.heap.size X Y → J pre Y)
    (hV : ∀ pre c rest W, cutsL a0_3 ⟨a1_0, a1_1, a1_2⟩ = pre ++ c :: rest → J pre W → Calls Try.prog 49 #[.int .i64 c.ax, .int .i64 c.pos, .agg #[.int .i64 c.l.f0, .int .i64 c.l.f1, .int .i64 c.l.f2], .agg #[.int .i64 c.r.f0, .int .i64 c.r.f1, .int .i64 c.r.f2], .pointer (some ⟨g16, 0, none⟩), .pointer (some ⟨g24, 0, none⟩), .pointer (some ⟨gB, 0, none⟩), .pointer (some ⟨g32, 0, none⟩), .pointer (some ⟨gF, 0, none⟩), .pointer (some ⟨gU, 0, none⟩)] W fun e W' => ((e = .returned (.bool false) ∧ J (pre ++ [c]) W') ∨ (e = .returned (.bool true) ∧ JT (pre ++ [c]) W')) ∧ Own w.heap.size W W')
    (h0 : J [] w) :
    Calls Try.prog 48 #[.agg #[.int .i64 a0_0, .int .i64 a0_1, .int .i64 a0_2, .int .i64 a0_3, .slice A0_4 n0_4 c0_4], .agg #[.int .i64 a1_0, .int .i64 a1_1, .int .i64 a1_2], .func (.func 49) #[] #[.pointer (some ⟨g16, 0, none⟩), .pointer (some ⟨g24, 0, none⟩), .pointer (some ⟨gB, 0, none⟩), .pointer (some ⟨g32, 0, none⟩), .pointer (some ⟨gF, 0, none⟩), .pointer (some ⟨gU, 0, none⟩)]] w fun e w' => e = .returned (.tuple #[]) ∧ (J (cutsL a0_3 ⟨a1_0, a1_1, a1_2⟩) w' ∨ ∃ pre c rest, cutsL a0_3 ⟨a1_0, a1_1, a1_2⟩ = pre ++ c :: rest ∧ JT (pre ++ [c]) w') :=
  cuts.calls 49 #[.pointer (some ⟨g16, 0, none⟩), .pointer (some ⟨g24, 0, none⟩), .pointer (some ⟨gB, 0, none⟩), .pointer (some ⟨g32, 0, none⟩), .pointer (some ⟨gF, 0, none⟩), .pointer (some ⟨gU, 0, none⟩)] _ Try.func49 (by kernel_rfl) rfl a0_0 a0_1 a0_2 a0_3 A0_4 n0_4 c0_4 ⟨a1_0, a1_1, a1_2⟩ J JT w hk0 hk1 (fun ax h => by
    have h3 : ax = 0 ∨ ax = 1 ∨ ax = 2 := by omega
    rcases h3 with rfl | rfl | rfl
    · exact hs0
    · exact hs1
    exact hs2) hJ hV h0

end Go.Proofs.Ytgacodhpniehiaa.XA
