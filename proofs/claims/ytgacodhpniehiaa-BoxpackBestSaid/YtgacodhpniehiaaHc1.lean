import Derived.Test.YtgacodhpniehiaaXAx0
import Derived.Test.YtgacodhpniehiaaHa
import Derived.Test.YtgacodhpniehiaaFlat
namespace Go.Proofs.Ytgacodhpniehiaa.XA
open Go.RowKit Go.Proofs.Ytgacodhpniehiaa.Opens Go.Proofs.Ytgacodhpniehiaa.Flat Go.Proofs.YtgacodhpniehiaaW.PrintWords Go.Proofs.YtgacodhpniehiaaW.PrintLast Go.Proofs.YtgacodhpniehiaaW.PrintMore
attribute [local go_sem] max2_int min2_int max_two min_two max_three min_three max_four min_four cell_some cell_same
set_option linter.unusedVariables false
set_option linter.unusedSimpArgs false

def fitsB (a b : S23) : Bool := decide (a.f0 ≤ b.f0) && decide (a.f1 ≤ b.f1) && decide (a.f2 ≤ b.f2)
def leafN : S61 := ⟨0, ⟨#[]⟩, 0, 0, 0, 0, 0⟩
def prodN (x : S56) : S61 := ⟨1, x.f0, 0, 0, 0, 0, 0⟩
def cutN (fr : S23) (kf : Int) (c : Ct) (i : Nat) : S61 := ⟨3, ⟨#[]⟩, c.ax, wrap64 (getAx fr c.ax + c.pos), kf, wrap64 ((i : Int) + 1), 0⟩
def setR (L : List S61) (i : Nat) (v : Int) : List S61 := L.set i ⟨(rd_T61 L i).f0, (rd_T61 L i).f1, (rd_T61 L i).f2, (rd_T61 L i).f3, (rd_T61 L i).f4, (rd_T61 L i).f5, v⟩
def behindS (fr : S23) (kf : Int) (c : Ct) : S23 := setAx fr c.ax (wrap64 (getAx fr c.ax + wrap64 (c.pos + kf)))
def itemOk (s : S23) (v : Int) (x : S56) : Bool := fitsB x.f1 s && decide (x.f2 = v)
/-- What the closure of Best appends: the first best plan of a size, as long as there is room. -/
def putF (n0 n1 kf : Int) (its : List S56) (tb : List Int) : Nat → List S61 → S23 → S23 → Option (List S61)
  | 0, _, _, _ => none
  | n + 1, L, fr, s =>
    if ixOk n0 n1 tb s = true ∧ cutOk n0 n1 kf tb s = true ∧ its.length < 1000 ∧ L.length < 100000 then
      if L.length > 1024 then some L
      else if rd tb (ixS n0 n1 s) = 0 then some (L ++ [leafN])
      else match its.find? (itemOk s (rd tb (ixS n0 n1 s))) with
        | some x => some (L ++ [prodN x])
        | none => match (cutsL kf s).find? (fun c => decide (both n0 n1 tb c = rd tb (ixS n0 n1 s))) with
          | none => some L
          | some c => (putF n0 n1 kf its tb n (L ++ [cutN fr kf c L.length]) fr c.l).bind fun L1 =>
              if L.length < L1.length ∧ L1.length < 100000 then putF n0 n1 kf its tb n (setR L1 L.length (L1.length : Int)) (behindS fr kf c) c.r else none
    else none
/-- What Best has laid out before its closure runs: w0 the world with the items and the table, w1 the world with all variables. -/
structure PCtx (w0 w1 : World) (g16 g24 g32 gU : Nat) (A16_0 : Option Addr) (c16_0 : Nat) (s16_0 : List Int) (s24_0 s24_1 s24_2 s24_3 : Int) (A24_4 : Option Addr) (c24_4 : Nat) (s24_4 : List S56) : Prop where
  b01 : Below w0.heap.size w0 w1
  rT : Kd.C (Kd.int .i64) w0 A16_0 s16_0.length s16_0
  cT : s16_0.length ≤ c16_0
  rI : Kd.C k56 w0 A24_4 s24_4.length s24_4
  cI : s24_4.length ≤ c24_4
  hg : w0.heap.size ≤ g32
  bT : w1.heap[g16]? = some (.cells #[.slice A16_0 s16_0.length c16_0] 40 (0, 0))
  bP : w1.heap[g24]? = some (.cells #[.int .i64 s24_0, .int .i64 s24_1, .int .i64 s24_2, .int .i64 s24_3, .slice A24_4 s24_4.length c24_4] 33 (0, 0))
  bU : w1.heap[gU]? = some (.cells #[.func (.func 46) #[] #[.pointer (some ⟨g16, 0, none⟩), .pointer (some ⟨g24, 0, none⟩), .pointer (some ⟨g32, 0, none⟩), .pointer (some ⟨gU, 0, none⟩)]] 80 (0, 0))
  bL : ∃ v, w1.heap[g32]? = some (.cells #[v] 27 (0, 0))
/-- The world while the plan grows: only the plan's variable and rows from w1 on differ. -/
structure PInv (w1 : World) (g32 : Nat) (L : List S61) (W : World) : Prop where
  os : W.os = w1.os
  tape : W.tape = w1.tape
  output : W.output = w1.output
  size : w1.heap.size ≤ W.heap.size
  block : ∀ b, b < w1.heap.size → b ≠ g32 → W.heap[b]? = w1.heap[b]?
  pl : ∃ A c, W.heap[g32]? = some (.cells #[.slice A L.length c] 27 (0, 0)) ∧ Kd.R k61 61 W w1.heap.size (fun _ => True) (.slice A L.length c) L
section
variable {w0 w1 : World} {g16 g24 g32 gU : Nat} {A16_0 : Option Addr} {c16_0 : Nat} {s16_0 : List Int} {s24_0 s24_1 s24_2 s24_3 : Int} {A24_4 : Option Addr} {c24_4 : Nat} {s24_4 : List S56} {L : List S61} {W : World}
theorem PCtx.lt (hc : PCtx w0 w1 g16 g24 g32 gU A16_0 c16_0 s16_0 s24_0 s24_1 s24_2 s24_3 A24_4 c24_4 s24_4) : g32 < w1.heap.size := by
  obtain ⟨v, h⟩ := hc.bL
  exact blk_lt h
theorem blk_types {W : World} {g g' t t' : Nat} {cs cs' : Array Value} (h : W.heap[g]? = some (.cells cs t (0, 0))) (h' : W.heap[g']? = some (.cells cs' t' (0, 0))) (ht : t ≠ t') : g ≠ g' := fun e => by
  subst e
  rw [h] at h'
  injection h' with e2
  injection e2 with e3 e4
  exact ht e4
theorem PInv.get (hc : PCtx w0 w1 g16 g24 g32 gU A16_0 c16_0 s16_0 s24_0 s24_1 s24_2 s24_3 A24_4 c24_4 s24_4) (hi : PInv w1 g32 L W) {b t : Nat} {cs : Array Value} (h : w1.heap[b]? = some (.cells cs t (0, 0))) (ht : t ≠ 27) : W.heap[b]? = some (.cells cs t (0, 0)) := by
  obtain ⟨v, hv⟩ := hc.bL
  exact (hi.block b (blk_lt h) (blk_types h hv ht)).trans h
theorem PInv.below0 (hc : PCtx w0 w1 g16 g24 g32 gU A16_0 c16_0 s16_0 s24_0 s24_1 s24_2 s24_3 A24_4 c24_4 s24_4) (hi : PInv w1 g32 L W) : Below w0.heap.size w0 W :=
  ⟨hi.os.trans hc.b01.os, hi.tape.trans hc.b01.tape, hi.output.trans hc.b01.output, Nat.le_trans hc.b01.size hi.size, fun k hk => (hi.block k (Nat.lt_of_lt_of_le hk hc.b01.size) (by have := hc.hg; omega)).trans (hc.b01.block k hk)⟩
theorem PInv.keep (hc : PCtx w0 w1 g16 g24 g32 gU A16_0 c16_0 s16_0 s24_0 s24_1 s24_2 s24_3 A24_4 c24_4 s24_4) (hi : PInv w1 g32 L W) {Y : World} (hb : Below W.heap.size W Y) : PInv w1 g32 L Y := by
  obtain ⟨A, c, h1, h2⟩ := hi.pl
  exact ⟨hb.os.trans hi.os, hb.tape.trans hi.tape, hb.output.trans hi.output, Nat.le_trans hi.size hb.size, fun b hlt hne => (hb.block b (Nat.lt_of_lt_of_le hlt hi.size)).trans (hi.block b hlt hne), A, c, blk_below h1 hb, Kd.R_below h2 hb⟩
/-- The row that v lies in has been written (an append), and the plan's variable names the new row. -/
theorem PInv.put (hc : PCtx w0 w1 g16 g24 g32 gU A16_0 c16_0 s16_0 s24_0 s24_1 s24_2 s24_3 A24_4 c24_4 s24_4) (hi : PInv w1 g32 L W) {A : Option Addr} {c : Nat} (hv : Kd.R k61 61 W w1.heap.size (fun _ => True) (.slice A L.length c) L) {L' : List S61} {v' : Value} {Y : World} (hr : Kd.R k61 61 Y w1.heap.size (fun _ => True) v' L') (hg : W.grownBy Y (Value.slice A L.length c).ownBlock) :
    PInv w1 g32 L' (Y.setCell ⟨g32, 0, none⟩ v') ∧ Own w1.heap.size W (Y.setCell ⟨g32, 0, none⟩ v') := by
  have hlt := hc.lt
  obtain ⟨A0, c0, h1, h2⟩ := hi.pl
  obtain ⟨A', c', rfl⟩ := Kd.R_slice hr
  have hgk : Y.heap[g32]? = some (.cells #[.slice A0 L.length c0] 27 (0, 0)) := blk_grown h1 hg (Kd.R_ne hv h1 (by decide))
  refine ⟨⟨hg.os.trans hi.os, hg.tape.trans hi.tape, hg.output.trans hi.output, Nat.le_trans hi.size (by simpa using hg.size), fun b hb hne => ?_, A', c', blk_put (cs := #[.slice A0 L.length c0]) hgk 0 _ rfl, ?_⟩, ?_⟩
  · rw [Below.heap_setCell _ _ _ _ (show b ≠ (Addr.mk g32 0 none).block from hne)]
    refine (hg.block b (Nat.lt_of_lt_of_le hb hi.size) (fun e => ?_)).trans (hi.block b hb hne)
    have := Kd.R_base hv b e.symm
    omega
  · refine Kd.R_mono (Kd.R_far (Kd.R_mono (ok' := fun k => w1.heap.size ≤ k) (Kd.R_bound hr) (fun k hk => hk.2.1)) (fun k hk => ?_) _) (fun _ _ => trivial)
    show k ≠ g32
    omega
  intro b cs t hb ht hx
  rw [Below.heap_setCell _ _ _ _ (show b ≠ (Addr.mk g32 0 none).block from by show b ≠ g32; omega)]
  exact blk_grown hx hg (Kd.R_ne hv hx (fun e => ht e.symm))
/-- A row of the plan is written in place. -/
theorem PInv.seg (hc : PCtx w0 w1 g16 g24 g32 gU A16_0 c16_0 s16_0 s24_0 s24_1 s24_2 s24_3 A24_4 c24_4 s24_4) (hi : PInv w1 g32 L W) {A : Option Addr} {c : Nat} (h1 : W.heap[g32]? = some (.cells #[.slice A L.length c] 27 (0, 0))) (hv : Kd.R k61 61 W w1.heap.size (fun _ => True) (.slice A L.length c) L) {L' : List S61} {Y : World} (hl : L'.length = L.length) (hr : Kd.R k61 61 Y w1.heap.size (fun _ => True) (.slice A L.length c) L') (hg : W.grownBy Y (Value.slice A L.length c).ownBlock) :
    PInv w1 g32 L' Y ∧ Own w1.heap.size W Y := by
  refine ⟨⟨hg.os.trans hi.os, hg.tape.trans hi.tape, hg.output.trans hi.output, Nat.le_trans hi.size (by simpa using hg.size), fun b hb hne => ?_, A, c, ?_, ?_⟩, fun b cs t hb ht hx => blk_grown hx hg (Kd.R_ne hv hx (fun e => ht e.symm))⟩
  · refine (hg.block b (Nat.lt_of_lt_of_le hb hi.size) (fun e => ?_)).trans (hi.block b hb hne)
    have := Kd.R_base hv b e.symm
    omega
  · rw [hl]; exact blk_grown h1 hg (Kd.R_ne hv h1 (by decide))
  rw [hl]; exact hr
end

end Go.Proofs.Ytgacodhpniehiaa.XA
