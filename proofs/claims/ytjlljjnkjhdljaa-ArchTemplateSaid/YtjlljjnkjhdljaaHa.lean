import Derived.Test.YtjlljjnkjhdljaaXAx0
import Derived.Test.YtjlljjnkjhdljaaHr
import Derived.RangeFuncNested
import Derived.RangeFuncBound
import Derived.RangeFuncCalls
import Derived.RangeFuncLeaves
import Derived.Shelf.Abstract
import Derived.OwnWalkIn
import Derived.TacticsInMore
import Derived.LoopNIn
import Derived.LoopIn
namespace Go.Proofs.Ytjlljjnkjhdljaa.XA
open Go.RowKit Go.Shelf Go.Proofs.Ytjlljjnkjhdljaa.Opens Go.Proofs.YtjlljjnkjhdljaaW.PrintWords Go.Proofs.YtjlljjnkjhdljaaW.PrintLast Go.Proofs.YtjlljjnkjhdljaaW.PrintMore
attribute [local go_sem] Oper.semAt_some
set_option linter.unusedVariables false
set_option linter.unusedSimpArgs false

/-- One edge: its first corner, its second. -/
abbrev Ed : Type := S46 × S46
def edge_enc (x : Ed) : Array Value := #[.agg #[.int .i64 x.1.f0, .int .i64 x.1.f1], .agg #[.int .i64 x.2.f0, .int .i64 x.2.f1]]
def edge_at (l : List S46) (k : Nat) : Ed := (rd_T46 l k, rd_T46 l ((IntKind.i64.wrap ((k : Int) + 1)).tmod (l.length : Int)))
def edge_upto (l : List S46) (k : Nat) : List Ed := (List.range k).map (edge_at l)
theorem edge_upto_succ (l : List S46) (k : Nat) : edge_upto l (k + 1) = edge_upto l k ++ [edge_at l k] := by simp [edge_upto, List.range_succ]
theorem edge_upto_length (l : List S46) (k : Nat) : (edge_upto l k).length = k := by simp [edge_upto]

set_option maxHeartbeats 1000000 in
theorem edges_in (F : Fence) (n : Nat) (hf : F.fn 43) (hro : F.round = none) (a : Option Addr) (len cap : Nat) (w : World) :
    CallsIn F n Try.prog 43 #[.slice a len cap] w fun e w' => e = .returned (.func (.func 66) #[] #[.pointer (some ⟨w.heap.size, 0, none⟩)]) ∧ w' = w.alloc (.cells #[.slice a len cap] 38) := by
  refine callsIn_of_wp Try.func43 rfl hf ?_ hro
  simp only [Try.ntmps43, List.size_toArray, List.length_cons, List.length_nil, Nat.reduceAdd, Nat.reduceSub, Array.replicate_succ, Array.replicate_zero, List.push_toArray, List.append_toArray, List.nil_append, List.cons_append]
  gi_wp2
  go_ret
  exact ⟨rfl, rfl⟩

theorem wrap_at (x : Int) (h0 : -9223372036854775808 ≤ x) (h1 : x ≤ 9223372036854775807) : IntKind.i64.wrap x = x := by
  rw [IntKind.wrap_i64]
  omega
/-- What a round that goes on keeps: what lay below n₀, and block B. -/
def KeepB (n₀ B : Nat) (W W' : World) : Prop := Below n₀ W W' ∧ W'.heap[B]? = W.heap[B]?
theorem KeepB.refl (n₀ B : Nat) (W : World) : KeepB n₀ B W W := ⟨Below.refl _ _, rfl⟩
theorem KeepB.trans {n₀ B : Nat} {X Y Z : World} (h : KeepB n₀ B X Y) (k : KeepB n₀ B Y Z) : KeepB n₀ B X Z := ⟨h.1.trans k.1, k.2.trans h.2⟩
theorem KeepB.cell {n₀ B : Nat} {X Y : World} (h : KeepB n₀ B X Y) (j : Nat) : Y.cell? ⟨B, j, none⟩ = X.cell? ⟨B, j, none⟩ := by
  simp only [World.cell?, h.2]
theorem KeepB.put {n₀ B : Nat} {w : World} (hn : n₀ ≤ w.heap.size) (hB : B < w.heap.size) (W : World) (l : Nat) (o o' : Obj) (hl : w.heap.size ≤ l) (h : W.heap[l]? = some o) (h1 : o.isCells = false) (h2 : o.isWalk = false) : KeepB n₀ B W (W.putObj l o') :=
  ⟨belowK_b hn W l o o' hl h h1 h2, (grownBy_putObj' W l o').block B (by have := (Array.getElem?_eq_some_iff.1 h).1; omega) (fun e => by cases e; omega)⟩
set_option maxRecDepth 100000 in
set_option maxHeartbeats 2000000 in
theorem edges1_in (n : Nat) (hn : 1 ≤ n) (l Bs n₀ : Nat) (A : Option Addr) (cap : Nat) (zs : List S46) (w0 : World) (hn0 : w0.heap.size ≤ n₀) (hC : Kd.C k46 w0 A zs.length zs) (hpos : 0 < zs.length) (hlen : zs.length < 1000) (J Jx : List Ed → World → Prop)
    (hY : ∀ pre x W, J pre W → pre.length < zs.length → YieldAt Fence.wide (n - 1) Try.prog l (edge_enc x) W fun e W' =>
      (e = .returned (.bool true) ∧ J (pre ++ [x]) W' ∧ KeepB n₀ Bs W W') ∨ (e = .returned (.bool false) ∧ Jx (pre ++ [x]) W'))
    (W : World) (hb0 : Below w0.heap.size w0 W) (hBs : W.cell? ⟨Bs, 0, none⟩ = some (.slice A zs.length cap)) (h0 : J [] W) (hJd : ∀ pre X, J pre X → J pre X.drew) :
    CallsIn Fence.wide n Try.prog 66 #[.func (.yield l) #[] #[], .pointer (some ⟨Bs, 0, none⟩)] W fun e W' => (∃ v, e = .returned v) ∧
      ((∃ ys, ys = edge_upto zs zs.length ∧ J ys W') ∨ (∃ pre, (∃ k, k ≤ zs.length ∧ pre = edge_upto zs k) ∧ Jx pre W')) := by
  refine callsIn_of_wp Try.func66 rfl trivial ?_ rfl
  simp only [Try.ntmps66, List.size_toArray, List.length_cons, List.length_nil, Nat.reduceAdd, Nat.reduceSub, Array.replicate_succ, Array.replicate_zero, List.push_toArray, List.append_toArray, List.nil_append, List.cons_append]
  gi_wp2
  gi_loopw [6] (fun i wr => ∃ k : Nat, k ≤ zs.length ∧ i = .int .i64 k ∧ J (edge_upto zs k) wr ∧ KeepB n₀ Bs W wr)
    (fun i _ => zs.length - (intOf i).toNat)
  case atStart => exact ⟨0, Nat.zero_le _, rfl, h0, KeepB.refl _ _ _⟩
  case round =>
    obtain ⟨k, hk, rfl, hJs, hnx⟩ := hrel
    have hBr : wr.cell? ⟨Bs, 0, none⟩ = some (.slice A zs.length cap) := (hnx.cell 0).trans hBs
    by_cases hlt : k < zs.length
    · obtain ⟨fn, tmps, assign, body, hy, hR⟩ := hY _ (edge_at zs k) wr.drew (hJd _ _ hJs) (by rw [edge_upto_length]; exact hlt)
      have hw1 : IntKind.i64.wrap ((k : Int) + 1) = (k : Int) + 1 := wrap_at _ (by omega) (by omega)
      have hm0 : 0 ≤ (IntKind.i64.wrap ((k : Int) + 1)).tmod (zs.length : Int) := by rw [hw1]; exact Int.tmod_nonneg _ (by omega)
      have hm1 : (IntKind.i64.wrap ((k : Int) + 1)).tmod (zs.length : Int) < (zs.length : Int) := by rw [hw1]; exact Int.tmod_lt_of_pos _ (by omega)
      have hm2 : 0 ≤ (IntKind.i64.wrap ((k : Int) + 1)).tmod (zs.length : Int) ∧ (IntKind.i64.wrap ((k : Int) + 1)).tmod (zs.length : Int) < (zs.length : Int) := ⟨hm0, hm1⟩
      dsimp only [edge_enc, edge_at] at hy
      obtain ⟨ad, e1, hx0, hx1⟩ := at_T46 hC (k : Int) (by omega) (by omega)
      obtain ⟨ad2, e2, hy0, hy1⟩ := at_T46 hC ((IntKind.i64.wrap ((k : Int) + 1)).tmod (zs.length : Int)) hm0 hm1
      cases e1
      cases e2
      have hb1 : Below w0.heap.size w0 wr := hb0.trans (hnx.1.mono hn0)
      replace hx0 := (hb1.cell (World.block_lt_of_cell? w0 _ hx0)).trans hx0
      replace hx1 := (hb1.cell (World.block_lt_of_cell? w0 _ hx1)).trans hx1
      replace hy0 := (hb1.cell (World.block_lt_of_cell? w0 _ hy0)).trans hy0
      replace hy1 := (hb1.cell (World.block_lt_of_cell? w0 _ hy1)).trans hy1
      rw [Int.toNat_natCast] at hx0 hx1
      clear hw1
      have z1 : ¬ (zs.length : Int) = 0 := by omega
      have z2 : ((zs.length : Int) == 0) = false := beq_eq_false_iff_ne.mpr z1
      have z3 : ¬ zs.length = 0 := by omega
      have z4 : ¬ zs = [] := fun h => z3 (by rw [h]; rfl)
      gi_wp2
      refine wpIn_region_calm [13, 14] (fun w' => w' = wr.drew) (by kernel_rfl) (fun hd => ?_)
      refine wpCalm_take 0 20 (fun _ => trivial) rfl (by kernel_rfl) hd (fun _ _ _ h => h) rfl ⟨rfl, by rintro _ rfl; go_simp; first | done | with_reducible rfl⟩ (fun hd => ?_)
      simp only [Act.put, List.setIfInBounds_toArray, List.set_cons_zero, List.set_cons_succ]
      refine wpCalm_take 1 20 (fun _ => trivial) rfl (by kernel_rfl) hd (fun _ _ _ h => h) rfl ⟨rfl, by rintro _ rfl; go_simp; first | done | with_reducible rfl⟩ (fun hd => ?_)
      simp only [Act.put, List.setIfInBounds_toArray, List.set_cons_zero, List.set_cons_succ]
      refine wpCalm_take 2 20 (fun _ => trivial) rfl (by kernel_rfl) hd (fun _ _ _ h => h) rfl ⟨rfl, by rintro _ rfl; go_simp; first | done | with_reducible rfl⟩ (fun hd => ?_)
      simp only [Act.put, List.setIfInBounds_toArray, List.set_cons_zero, List.set_cons_succ]
      refine wpCalm_take 3 20 (fun _ => trivial) rfl (by kernel_rfl) hd (fun _ _ _ h => h) rfl ⟨rfl, by rintro _ rfl; go_simp; first | done | with_reducible rfl⟩ (fun hd => ?_)
      simp only [Act.put, List.setIfInBounds_toArray, List.set_cons_zero, List.set_cons_succ]
      refine wpCalm_take 4 20 (fun _ => trivial) rfl (by kernel_rfl) hd (fun _ _ _ h => h) rfl ⟨rfl, by rintro _ rfl; go_simp; first | done | with_reducible rfl⟩ (fun hd => ?_)
      simp only [Act.put, List.setIfInBounds_toArray, List.set_cons_zero, List.set_cons_succ]
      refine wpCalm_take 5 20 (fun _ => trivial) rfl (by kernel_rfl) hd (fun _ _ _ h => h) rfl ⟨rfl, by rintro _ rfl; go_simp; first | done | with_reducible rfl⟩ (fun hd => ?_)
      simp only [Act.put, List.setIfInBounds_toArray, List.set_cons_zero, List.set_cons_succ]
      refine wpCalm_take 6 20 (fun _ => trivial) rfl (by kernel_rfl) hd (fun _ _ _ h => h) rfl ⟨rfl, by rintro _ rfl; go_simp; first | done | with_reducible rfl⟩ (fun hd => ?_)
      simp only [Act.put, List.setIfInBounds_toArray, List.set_cons_zero, List.set_cons_succ]
      refine wpCalm_take 7 20 (fun _ => trivial) rfl (by kernel_rfl) hd (fun _ _ _ h => h) rfl ⟨rfl, by rintro _ rfl; go_simp; first | done | with_reducible rfl⟩ (fun hd => ?_)
      simp only [Act.put, List.setIfInBounds_toArray, List.set_cons_zero, List.set_cons_succ]
      refine wpCalm_take 8 20 (fun _ => trivial) rfl (by kernel_rfl) hd (fun _ _ _ h => h) rfl ⟨rfl, by rintro _ rfl; go_simp; first | done | with_reducible rfl⟩ (fun hd => ?_)
      simp only [Act.put, List.setIfInBounds_toArray, List.set_cons_zero, List.set_cons_succ]
      refine wpCalm_take 9 20 (fun _ => trivial) rfl (by kernel_rfl) hd (fun _ _ _ h => h) rfl ⟨rfl, by rintro _ rfl; go_simp; first | done | with_reducible rfl⟩ (fun hd => ?_)
      simp only [Act.put, List.setIfInBounds_toArray, List.set_cons_zero, List.set_cons_succ]
      refine wpCalm_take 10 20 (fun _ => trivial) rfl (by kernel_rfl) hd (fun _ _ _ h => h) rfl ⟨rfl, by rintro _ rfl; go_simp; first | done | with_reducible rfl⟩ (fun hd => ?_)
      simp only [Act.put, List.setIfInBounds_toArray, List.set_cons_zero, List.set_cons_succ]
      refine wpCalm_take 11 20 (fun _ => trivial) rfl (by kernel_rfl) hd (fun _ _ _ h => h) rfl ⟨rfl, by rintro _ rfl; go_simp; first | done | with_reducible rfl⟩ (fun hd => ?_)
      simp only [Act.put, List.setIfInBounds_toArray, List.set_cons_zero, List.set_cons_succ]
      refine wpCalm_take 12 20 (fun _ => trivial) rfl (by kernel_rfl) hd (fun _ _ _ h => h) rfl ⟨rfl, by rintro _ rfl; go_simp; first | done | with_reducible rfl⟩ (fun hd => ?_)
      simp only [Act.put, List.setIfInBounds_toArray, List.set_cons_zero, List.set_cons_succ]
      refine wpCalm_late 13 rfl (by kernel_rfl) rfl (fun K hK => ?_)
      go_simp
      refine hR.mono ?_
      rintro e W3 (⟨rfl, hJ3, hk3⟩ | ⟨rfl, hJx3⟩)
      · refine hK _ _ ?_
        try simp only [Act.put, List.setIfInBounds_toArray, List.set_cons_zero, List.set_cons_succ]
        refine wpCalm_late 14 rfl (by kernel_rfl) rfl (fun K2 hK2 => ?_)
        go_simp
        refine hK2 _ _ ?_
        try simp only [Act.put, List.setIfInBounds_toArray, List.set_cons_zero, List.set_cons_succ]
        refine wpCalm_done (by kernel_rfl) ?_
        clear hK hK2
        have hnx' : KeepB n₀ Bs W W3 := (hnx.trans (⟨⟨rfl, rfl, rfl, Nat.le_refl _, fun _ _ => rfl⟩, rfl⟩ : KeepB n₀ Bs wr wr.drew)).trans hk3
        gi_wp2
        go_roundw
        case rel => exact ⟨k + 1, by omega, by simp, by rw [edge_upto_succ]; exact hJ3, hnx'⟩
        case measure => simp [intOf]; omega
      · refine hK _ _ ?_
        try simp only [Act.put, List.setIfInBounds_toArray, List.set_cons_zero, List.set_cons_succ]
        refine wpCalm_late 14 rfl (by kernel_rfl) rfl (fun K2 hK2 => ?_)
        go_simp
        refine hK2 _ _ ?_
        try simp only [Act.put, List.setIfInBounds_toArray, List.set_cons_zero, List.set_cons_succ]
        refine wpCalm_done (by kernel_rfl) ?_
        clear hK hK2
        gi_wp2
        refine bodyPost_ret (results_none rfl _ _ _) rfl ?_
        exact ⟨⟨_, rfl⟩, .inr ⟨_, ⟨k + 1, by omega, (edge_upto_succ _ _).symm⟩, hJx3⟩⟩
    · obtain rfl : k = zs.length := by omega
      gi_wp2
      go_end0
      exact ⟨⟨_, rfl⟩, .inl ⟨_, rfl, hJs⟩⟩
/-- edges hands back a value that stops as it should. -/
theorem edges_stops (n : Nat) (hn : 1 ≤ n) (Bs n₀ : Nat) (A : Option Addr) (cap : Nat) (zs : List S46) (w0 : World) (hC : Kd.C k46 w0 A zs.length zs) (hpos : 0 < zs.length) (hlen : zs.length < 1000) (w : World) (hb0 : Below w0.heap.size w0 w) (hn0 : w0.heap.size ≤ n₀) (hn1 : n₀ ≤ w.heap.size)
    (hBs : w.cell? ⟨Bs, 0, none⟩ = some (.slice A zs.length cap)) (hBl : Bs < w.heap.size) :
    SeqStopsK Fence.wide n Try.prog 66 #[.pointer (some ⟨Bs, 0, none⟩)] edge_enc (KeepB n₀ Bs) (fun ys => ys = edge_upto zs zs.length)
      (fun pre => ∃ k, k ≤ zs.length ∧ pre = edge_upto zs k) zs.length w := fun l J Jx W hW hJ _ hY h0 =>
  edges1_in n hn l Bs n₀ A cap zs w0 hn0 hC hpos hlen J Jx hY W (hb0.trans (hW.mono (Nat.le_trans hn0 hn1))) ((hW.cell (p := ⟨Bs, 0, none⟩) hBl).trans hBs) h0
    (fun pre X hX => hJ pre X X.drew none hX ⟨rfl, rfl, rfl, Nat.le_refl _, fun _ _ _ => rfl⟩ (fun r e => by cases e))

/-- Block B holds the cells cs. -/
def Blk (W : World) (B : Nat) (cs : Array Value) (t : TypeId) : Prop := W.heap[B]? = some (.cells cs t (0, 0))
theorem Blk.own (B : Nat) {β : Type} (cs : β → Array Value) (t : TypeId) : Own (fun s W => Blk W B (cs s) t) := fun s X Y row hs hg hrow =>
  (hg.block B (Array.getElem?_eq_some_iff.1 hs).1 (fun e' => by obtain ⟨o, ho, hc⟩ := hrow B e'.symm; rw [show X.heap[B]? = _ from hs] at ho; cases ho; cases hc)).trans hs

theorem boxed_past {X Y : World} {B : Nat} {t : TypeId} {v : Value} (h : Below X.heap.size X Y) (hb : Boxed X B t v) : Boxed Y B t v := (h.block B hb.lt).trans hb
theorem blk_past {X Y : World} {B : Nat} {t : TypeId} {cs : Array Value} (h : Below X.heap.size X Y) (hb : Blk X B cs t) : Blk Y B cs t := (h.block B (Array.getElem?_eq_some_iff.1 hb).1).trans hb
theorem others_of_below {X Y : World} (h : Below X.heap.size X Y) : KeepsOthers X Y := ⟨h.size, fun b o ho _ => (h.block b (Array.getElem?_eq_some_iff.1 ho).1).trans ho⟩

/-- Operations that hand back a value go inside a fence as without. -/
theorem wpIn_of_value {n : Nat} {P : Program} {o : Oper} {a : Act} {w : World} {K : Act → World → Prop} {Q : Exit → Act → World → Prop} (F : Fence) (hF : ∀ f, F.fn f) (hnd : ∀ c, o.op ≠ .defer c) {r : Result Value} (hr : (execOp a.eval o).run P w = r.andThen fun v w' => .ok (.value v) w') (h : o.wp P a w K Q) : o.wpIn F n P a w K Q := by
  refine ⟨fun f _ => hF f, ?_⟩
  rw [Oper.semAt_eq F.round _ o hnd, hr]
  unfold Oper.wp at h
  rw [hr] at h
  cases r with
  | ok v w' => exact h
  | halt z w' =>
    cases z <;> exact h

theorem run_append_form {P : Program} {o : Oper} {a : Act} {w : World} {s x : Operand} {t : TypeId} (ho : o.op = .call { callee := .builtin .append, args := #[s, x], argTypes := #[t, t] }) : ∃ r : Result Value, (execOp a.eval o).run P w = r.andThen fun v w' => .ok (.value v) w' := by
  unfold execOp
  simp only [ho, resolve, invoke, builtin, Sem.run_bind, Sem.run_pure, Result.andThen_ok]
  exact ⟨_, rfl⟩
theorem wanted_append {F : Fence} {n : Nat} {P : Program} {o : Oper} {a : Act} {w : World} {K : Act → World → Prop} {Q : Exit → Act → World → Prop} {c X Y : Prop} [Decidable c] (s x : Operand) (t : TypeId) (hF : ∀ f, F.fn f) (ho : o.op = .call { callee := .builtin .append, args := #[s, x], argTypes := #[t, t] }) (hc : c) (h : if c then Oper.wp P o a w K Q else X) : if c then Oper.wpIn F n P o a w K Q else Y := by
  rw [if_pos hc] at h ⊢
  obtain ⟨rr, hrr⟩ := run_append_form (P := P) (a := a) (w := w) ho
  exact wpIn_of_value _ hF (by rw [ho]; intro c hc; cases hc) hrr h

theorem wpListIn_append_R {α : Type} {F : Fence} {n : Nat} {P : Program} {ops : Array Oper} {rest : List Oper} {o : Oper} {a : Act} {Q : Exit → Act → World → Prop} (d : Kd α) {w0 W : World} (base : Nat) (hF : ∀ f, F.fn f) (hgd : o.guard = none) (s x : Operand) (t e : TypeId) (z : Value) (bytes : Nat)
    (ho : o.op = .call { callee := .builtin .append, args := #[s, x], argTypes := #[t, t] })
    (ht : P.underlying t = some (.slice e)) (hinfo : (P.info? e).map (fun i => (i.zero, i.size, i.bytes)) = some (some z, d.sz, bytes)) (hz : z.cells.size = d.sz) (hs0 : 0 < d.sz) (hb0 : 0 < bytes)
    (v : Value) (xs : List α) (p : α) (cs : List Value) (ok okp : Nat → Prop) (hs : a.eval s = v) (hx : a.eval x = .slice (some ⟨W.heap.size, 0, none⟩) 1 1) (hp : d.M W base okp p cs) (hokp : ∀ k, okp k → ok k ∧ some k ≠ v.ownBlock) (hfresh : ∀ k, W.heap.size ≤ k → ok k)
    (HO : d.R e W base ok v xs) (HB : Below base w0 W) (hbase : base ≤ W.heap.size) (hl : (xs.length + 1) * bytes ≤ 140737488355328)
    (h : ∀ v1 w1, d.R e w1 base ok v1 (xs ++ [p]) → Below base w0 w1 → wpListIn F n P ops Q rest (a.put o.dst v1) w1) : wpListIn F n P ops Q (o :: rest) a (W.alloc (.cells cs.toArray e)) := by
  refine wpListIn_plain hgd fun K hK' => ?_
  have hw : Region.wanted o (yielded ops a.tmps) = true := by simp [Region.wanted, hgd]
  have hst := Kd.R_append_step (P := P) (ops := ops) (o := o) (a := a) (Q := Q) (Kc := K) d base (w0 := w0) hw s x t e z bytes ho ht hinfo hz hs0 hb0 v xs p cs ok okp hs hx hp hokp hfresh HO HB hbase hl (fun v1 w1 q1 q2 _ _ => hK' _ _ (h v1 w1 q1 q2))
  rw [if_pos hw] at hst
  obtain ⟨rr, hrr⟩ := run_append_form (P := P) (a := a) (w := W.alloc (.cells cs.toArray e)) ho
  exact wpIn_of_value _ hF (by rw [ho]; intro c hc; cases hc) hrr hst

end Go.Proofs.Ytjlljjnkjhdljaa.XA
