-- written by xprint.py, this project's own program (wip/), over the words of print.sh
import Derived.Test.YtejnelflfldfgaaProg
import Derived.Below
import Derived.Deep.Draws
import Derived.Deep.AppendLies
import Derived.Maps.AppendAt
import Derived.OwnWalk
import Derived.Laws.BytesArg
import Derived.Laws.MakeOwn
import Derived.Laws.OwnMore
import Derived.Deep.OwnRows
import Derived.Tactics
import Derived.Lib.ConvBytes
import Derived.Laws.Slices
import Derived.WalkKit
import Derived.KernelRfl
import Derived.RowKit3
import Derived.Deep.LoopGhost
import Derived.Deep.QuietTactic
import Derived.BigQuiet
import Derived.WideLaws
import Derived.Deep.DeepCutAuto
import Derived.Deep.CutBlock
import Derived.Deep.RegionHeld3
import Derived.Laws.Rows
import Derived.Lib.AppendStr
import Derived.ArgAppend
import Derived.Laws.IdiomCopy
import Derived.OrdersHeld
import Derived.Laws.BitsLemmas
import Derived.RowKit
import Derived.Lib.LazyBuf
import Derived.Test.YtejnelflfldfgaaWMoreSlim
import Derived.Test.YtejnelflfldfgaaOpens
namespace Go.Proofs.Ytejnelflfldfgaa.XA
open Go.RowKit Go.Proofs.Ytejnelflfldfgaa.Opens Go.Proofs.YtejnelflfldfgaaW.PrintWords Go.Proofs.YtejnelflfldfgaaW.PrintLast Go.Proofs.YtejnelflfldfgaaW.PrintMore
attribute [local go_sem] max2_int min2_int max_two min_two max_three min_three max_four min_four cell_some cell_same   -- for this text's walks alone
set_option linter.unusedVariables false
set_option linter.unusedSimpArgs false



def errW : Option Int → Value
  | none => .nilIface
  | some c => .iface 0 (.int .i64 c)
theorem errW_none : errW none = .nilIface := rfl
theorem errW_some (c : Int) : errW (some c) = .iface 0 (.int .i64 c) := rfl

theorem info3 : (Try.prog.info? 3).map (fun i => (i.zero, i.size, i.bytes)) = some (some (.int .i64 0), 1, 8) := by kernel_rfl
theorem info47 : (Try.prog.info? 47).map (fun i => (i.zero, i.size, i.bytes)) = some (some (.agg #[(.string ⟨#[]⟩), (.string ⟨#[]⟩), (.int .i64 0), (.int .i64 0), (.int .i64 0), (.int .i64 0), (.int .i64 0), (.int .i64 0), (.int .i64 0), (.int .i64 0), (.slice none 0 0), (.slice none 0 0)]), 12, 144) := by kernel_rfl
-- the values' own types
/-! #### struct type 43 -/
structure S43 where
  f0 : Int
  f1 : Int
  f2 : Int
def z43 : S43 := ⟨(0 : Int), (0 : Int), (0 : Int)⟩
def k43 : Kd S43 := Kd.iso (Kd.pair (Kd.int .i64) (Kd.pair (Kd.int .i64) (Kd.int .i64))) (fun x : S43 => (x.f0, x.f1, x.f2))
theorem k43_heap : Kd.Heap k43 := Kd.heap_iso _ (Kd.heap_pair (Kd.heap_int .i64) (Kd.heap_pair (Kd.heap_int .i64) (Kd.heap_int .i64)))
theorem k43_open {w : World} {x : S43} {cs : List Value} (h : k43.K w x cs) : cs = [.int .i64 x.f0, .int .i64 x.f1, .int .i64 x.f2] := by
  obtain ⟨_, _, rfl, rfl, ⟨_, _, rfl, rfl, rfl⟩⟩ := h
  exact rfl
theorem k43_openM {w : World} {base : Nat} {ok : Nat → Prop} {x : S43} {cs : List Value} (h : k43.M w base ok x cs) : cs = [.int .i64 x.f0, .int .i64 x.f1, .int .i64 x.f2] := by
  obtain ⟨_, _, rfl, rfl, ⟨_, _, rfl, rfl, rfl⟩⟩ := h
  exact rfl
theorem k43_mk (w : World) (x : S43)  : k43.K w x [.int .i64 x.f0, .int .i64 x.f1, .int .i64 x.f2] := ⟨[.int .i64 x.f0], [.int .i64 x.f1, .int .i64 x.f2], rfl, rfl, ⟨[.int .i64 x.f1], [.int .i64 x.f2], rfl, rfl, rfl⟩⟩
theorem k43_mkM (w : World) (base : Nat) (ok : Nat → Prop) (x : S43)  : k43.M w base ok x [.int .i64 x.f0, .int .i64 x.f1, .int .i64 x.f2] := ⟨[.int .i64 x.f0], [.int .i64 x.f1, .int .i64 x.f2], rfl, rfl, ⟨[.int .i64 x.f1], [.int .i64 x.f2], rfl, rfl, rfl⟩⟩
theorem k43_mkF (W : World) (ok : Nat → Prop) (x : S43) : Kd.FK k43 W ok x [.int .i64 x.f0, .int .i64 x.f1, .int .i64 x.f2] := fun W2 _ => k43_mk W2 x
def rd_T43 (xs : List S43) (i : Int) : S43 := xs.getD i.toNat z43
theorem at_T43 {w : World} {A : Option Addr} {n : Nat} {xs : List S43} (h : Kd.C k43 w A n xs) (i : Int) (h0 : 0 ≤ i) (h1 : i < n) : ∃ ad , A = some ad ∧ w.cell? (ad.add (i.toNat * 3)) = some (.int .i64 (rd_T43 xs i).f0) ∧ w.cell? ⟨(ad.add (i.toNat * 3)).block, (ad.add (i.toNat * 3)).off + 1, none⟩ = some (.int .i64 (rd_T43 xs i).f1) ∧ w.cell? ⟨(ad.add (i.toNat * 3)).block, (ad.add (i.toNat * 3)).off + 2, none⟩ = some (.int .i64 (rd_T43 xs i).f2) := by
  obtain ⟨ad, c, e, _, hK, hc0⟩ := Kd.C_get h z43 i h0 h1
  have hc : ∀ j u, c[j]? = some u → w.cell? (ad.add (i.toNat * 3 + j)) = some u := hc0
  obtain rfl := k43_open hK
  exact ⟨ad, e, hc 0 _ rfl, by rw [← add_field _ _ 1 (by omega)]; exact hc 1 _ rfl, by rw [← add_field _ _ 2 (by omega)]; exact hc 2 _ rfl⟩

/-! #### struct type 45 -/
structure S45 where
  f0 : S43
  f1 : S43
def z45 : S45 := ⟨z43, z43⟩
def k45 : Kd S45 := Kd.iso (Kd.pair k43 k43) (fun x : S45 => (x.f0, x.f1))
theorem k45_heap : Kd.Heap k45 := Kd.heap_iso _ (Kd.heap_pair k43_heap k43_heap)
theorem k45_open {w : World} {x : S45} {cs : List Value} (h : k45.K w x cs) : cs = [.int .i64 x.f0.f0, .int .i64 x.f0.f1, .int .i64 x.f0.f2, .int .i64 x.f1.f0, .int .i64 x.f1.f1, .int .i64 x.f1.f2] := by
  obtain ⟨_, _, rfl, s0, s3⟩ := h
  obtain rfl := k43_open s0
  obtain rfl := k43_open s3
  exact rfl
theorem k45_openM {w : World} {base : Nat} {ok : Nat → Prop} {x : S45} {cs : List Value} (h : k45.M w base ok x cs) : cs = [.int .i64 x.f0.f0, .int .i64 x.f0.f1, .int .i64 x.f0.f2, .int .i64 x.f1.f0, .int .i64 x.f1.f1, .int .i64 x.f1.f2] := by
  obtain ⟨_, _, rfl, s0, s3⟩ := h
  obtain rfl := k43_openM s0
  obtain rfl := k43_openM s3
  exact rfl
theorem k45_mk (w : World) (x : S45)  : k45.K w x [.int .i64 x.f0.f0, .int .i64 x.f0.f1, .int .i64 x.f0.f2, .int .i64 x.f1.f0, .int .i64 x.f1.f1, .int .i64 x.f1.f2] := ⟨[.int .i64 x.f0.f0, .int .i64 x.f0.f1, .int .i64 x.f0.f2], [.int .i64 x.f1.f0, .int .i64 x.f1.f1, .int .i64 x.f1.f2], rfl, (k43_mk w x.f0 ), (k43_mk w x.f1 )⟩
theorem k45_mkM (w : World) (base : Nat) (ok : Nat → Prop) (x : S45)  : k45.M w base ok x [.int .i64 x.f0.f0, .int .i64 x.f0.f1, .int .i64 x.f0.f2, .int .i64 x.f1.f0, .int .i64 x.f1.f1, .int .i64 x.f1.f2] := ⟨[.int .i64 x.f0.f0, .int .i64 x.f0.f1, .int .i64 x.f0.f2], [.int .i64 x.f1.f0, .int .i64 x.f1.f1, .int .i64 x.f1.f2], rfl, (k43_mkM w base ok x.f0 ), (k43_mkM w base ok x.f1 )⟩
theorem k45_mkF (W : World) (ok : Nat → Prop) (x : S45) : Kd.FK k45 W ok x [.int .i64 x.f0.f0, .int .i64 x.f0.f1, .int .i64 x.f0.f2, .int .i64 x.f1.f0, .int .i64 x.f1.f1, .int .i64 x.f1.f2] := fun W2 _ => k45_mk W2 x
def rd_T45 (xs : List S45) (i : Int) : S45 := xs.getD i.toNat z45
theorem at_T45 {w : World} {A : Option Addr} {n : Nat} {xs : List S45} (h : Kd.C k45 w A n xs) (i : Int) (h0 : 0 ≤ i) (h1 : i < n) : ∃ ad , A = some ad ∧ w.cell? (ad.add (i.toNat * 6)) = some (.int .i64 (rd_T45 xs i).f0.f0) ∧ w.cell? ⟨(ad.add (i.toNat * 6)).block, (ad.add (i.toNat * 6)).off + 1, none⟩ = some (.int .i64 (rd_T45 xs i).f0.f1) ∧ w.cell? ⟨(ad.add (i.toNat * 6)).block, (ad.add (i.toNat * 6)).off + 2, none⟩ = some (.int .i64 (rd_T45 xs i).f0.f2) ∧ w.cell? ⟨(ad.add (i.toNat * 6)).block, (ad.add (i.toNat * 6)).off + 3, none⟩ = some (.int .i64 (rd_T45 xs i).f1.f0) ∧ w.cell? ⟨(ad.add (i.toNat * 6)).block, (ad.add (i.toNat * 6)).off + 4, none⟩ = some (.int .i64 (rd_T45 xs i).f1.f1) ∧ w.cell? ⟨(ad.add (i.toNat * 6)).block, (ad.add (i.toNat * 6)).off + 5, none⟩ = some (.int .i64 (rd_T45 xs i).f1.f2) := by
  obtain ⟨ad, c, e, _, hK, hc0⟩ := Kd.C_get h z45 i h0 h1
  have hc : ∀ j u, c[j]? = some u → w.cell? (ad.add (i.toNat * 6 + j)) = some u := hc0
  obtain rfl := k45_open hK
  exact ⟨ad, e, hc 0 _ rfl, by rw [← add_field _ _ 1 (by omega)]; exact hc 1 _ rfl, by rw [← add_field _ _ 2 (by omega)]; exact hc 2 _ rfl, by rw [← add_field _ _ 3 (by omega)]; exact hc 3 _ rfl, by rw [← add_field _ _ 4 (by omega)]; exact hc 4 _ rfl, by rw [← add_field _ _ 5 (by omega)]; exact hc 5 _ rfl⟩

def rd_L4 (xs : List (List Int)) (i : Int) : (List Int) := xs.getD i.toNat ([] : List Int)
theorem at_L4 {w : World} {A : Option Addr} {n : Nat} {xs : List (List Int)} (h : Kd.C (Kd.slice 3 (Kd.int .i64)) w A n xs) (i : Int) (h0 : 0 ≤ i) (h1 : i < n) : ∃ ad A0 c0, A = some ad ∧ w.cell? (ad.add i.toNat) = some (.slice A0 (rd_L4 xs i).length c0) ∧ (rd_L4 xs i).length ≤ c0 ∧ (Kd.int .i64).C w A0 (rd_L4 xs i).length (rd_L4 xs i) := by
  obtain ⟨ad, c, e, _, hK, hc0⟩ := Kd.C_get h ([] : List Int) i h0 h1
  have hc : ∀ j u, c[j]? = some u → w.cell? (ad.add (i.toNat * 1 + j)) = some u := hc0
  obtain ⟨A0, c0, rfl, l0, g0⟩ := hK
  exact ⟨ad, A0, c0, e, by have hq := hc 0 _ rfl; rwa [Nat.mul_one, Nat.add_zero] at hq, l0, g0⟩

/-! #### struct type 47 -/
structure S47 where
  f0 : ByteArray
  f1 : ByteArray
  f2 : Int
  f3 : S45
  f4 : Int
  f5 : (List Int)
  f6 : (List Int)
def z47 : S47 := ⟨(⟨#[]⟩ : ByteArray), (⟨#[]⟩ : ByteArray), (0 : Int), z45, (0 : Int), ([] : List Int), ([] : List Int)⟩
def k47 : Kd S47 := Kd.iso (Kd.pair Kd.string (Kd.pair Kd.string (Kd.pair (Kd.int .i64) (Kd.pair k45 (Kd.pair (Kd.int .i64) (Kd.pair (Kd.slice 3 (Kd.int .i64)) (Kd.slice 3 (Kd.int .i64)))))))) (fun x : S47 => (x.f0, x.f1, x.f2, x.f3, x.f4, x.f5, x.f6))
theorem k47_heap : Kd.Heap k47 := Kd.heap_iso _ (Kd.heap_pair Kd.heap_string (Kd.heap_pair Kd.heap_string (Kd.heap_pair (Kd.heap_int .i64) (Kd.heap_pair k45_heap (Kd.heap_pair (Kd.heap_int .i64) (Kd.heap_pair (Kd.heap_slice 3 (Kd.heap_int .i64)) (Kd.heap_slice 3 (Kd.heap_int .i64))))))))
theorem k47_open {w : World} {x : S47} {cs : List Value} (h : k47.K w x cs) : ∃ A10 c10 A11 c11, cs = [.string x.f0, .string x.f1, .int .i64 x.f2, .int .i64 x.f3.f0.f0, .int .i64 x.f3.f0.f1, .int .i64 x.f3.f0.f2, .int .i64 x.f3.f1.f0, .int .i64 x.f3.f1.f1, .int .i64 x.f3.f1.f2, .int .i64 x.f4, .slice A10 x.f5.length c10, .slice A11 x.f6.length c11] ∧ x.f5.length ≤ c10 ∧ (Kd.int .i64).C w A10 x.f5.length x.f5 ∧ x.f6.length ≤ c11 ∧ (Kd.int .i64).C w A11 x.f6.length x.f6 := by
  obtain ⟨_, _, rfl, rfl, ⟨_, _, rfl, rfl, ⟨_, _, rfl, rfl, ⟨_, _, rfl, s3, ⟨_, _, rfl, rfl, ⟨_, _, rfl, ⟨A10, c10, rfl, l10, g10⟩, ⟨A11, c11, rfl, l11, g11⟩⟩⟩⟩⟩⟩⟩ := h
  obtain rfl := k45_open s3
  exact ⟨A10, c10, A11, c11, rfl, l10, g10, l11, g11⟩
theorem k47_openM {w : World} {base : Nat} {ok : Nat → Prop} {x : S47} {cs : List Value} (h : k47.M w base ok x cs) : ∃ v10 v11, cs = [.string x.f0, .string x.f1, .int .i64 x.f2, .int .i64 x.f3.f0.f0, .int .i64 x.f3.f0.f1, .int .i64 x.f3.f0.f2, .int .i64 x.f3.f1.f0, .int .i64 x.f3.f1.f1, .int .i64 x.f3.f1.f2, .int .i64 x.f4, v10, v11] ∧ (Kd.int .i64).R 3 w base ok v10 x.f5 ∧ (Kd.int .i64).R 3 w base ok v11 x.f6 := by
  obtain ⟨_, _, rfl, rfl, ⟨_, _, rfl, rfl, ⟨_, _, rfl, rfl, ⟨_, _, rfl, s3, ⟨_, _, rfl, rfl, ⟨_, _, rfl, ⟨v10, rfl, g10⟩, ⟨v11, rfl, g11⟩⟩⟩⟩⟩⟩⟩ := h
  obtain rfl := k45_openM s3
  exact ⟨v10, v11, rfl, g10, g11⟩
theorem k47_mk (w : World) (x : S47) {A10 : Option Addr} {c10 : Nat} (l10 : x.f5.length ≤ c10) (g10 : (Kd.int .i64).C w A10 x.f5.length x.f5) {A11 : Option Addr} {c11 : Nat} (l11 : x.f6.length ≤ c11) (g11 : (Kd.int .i64).C w A11 x.f6.length x.f6) : k47.K w x [.string x.f0, .string x.f1, .int .i64 x.f2, .int .i64 x.f3.f0.f0, .int .i64 x.f3.f0.f1, .int .i64 x.f3.f0.f2, .int .i64 x.f3.f1.f0, .int .i64 x.f3.f1.f1, .int .i64 x.f3.f1.f2, .int .i64 x.f4, .slice A10 x.f5.length c10, .slice A11 x.f6.length c11] := ⟨[.string x.f0], [.string x.f1, .int .i64 x.f2, .int .i64 x.f3.f0.f0, .int .i64 x.f3.f0.f1, .int .i64 x.f3.f0.f2, .int .i64 x.f3.f1.f0, .int .i64 x.f3.f1.f1, .int .i64 x.f3.f1.f2, .int .i64 x.f4, .slice A10 x.f5.length c10, .slice A11 x.f6.length c11], rfl, rfl, ⟨[.string x.f1], [.int .i64 x.f2, .int .i64 x.f3.f0.f0, .int .i64 x.f3.f0.f1, .int .i64 x.f3.f0.f2, .int .i64 x.f3.f1.f0, .int .i64 x.f3.f1.f1, .int .i64 x.f3.f1.f2, .int .i64 x.f4, .slice A10 x.f5.length c10, .slice A11 x.f6.length c11], rfl, rfl, ⟨[.int .i64 x.f2], [.int .i64 x.f3.f0.f0, .int .i64 x.f3.f0.f1, .int .i64 x.f3.f0.f2, .int .i64 x.f3.f1.f0, .int .i64 x.f3.f1.f1, .int .i64 x.f3.f1.f2, .int .i64 x.f4, .slice A10 x.f5.length c10, .slice A11 x.f6.length c11], rfl, rfl, ⟨[.int .i64 x.f3.f0.f0, .int .i64 x.f3.f0.f1, .int .i64 x.f3.f0.f2, .int .i64 x.f3.f1.f0, .int .i64 x.f3.f1.f1, .int .i64 x.f3.f1.f2], [.int .i64 x.f4, .slice A10 x.f5.length c10, .slice A11 x.f6.length c11], rfl, (k45_mk w x.f3 ), ⟨[.int .i64 x.f4], [.slice A10 x.f5.length c10, .slice A11 x.f6.length c11], rfl, rfl, ⟨[.slice A10 x.f5.length c10], [.slice A11 x.f6.length c11], rfl, ⟨A10, c10, rfl, l10, g10⟩, ⟨A11, c11, rfl, l11, g11⟩⟩⟩⟩⟩⟩⟩
theorem k47_mkM (w : World) (base : Nat) (ok : Nat → Prop) (x : S47) {v10 : Value} (g10 : (Kd.int .i64).R 3 w base ok v10 x.f5) {v11 : Value} (g11 : (Kd.int .i64).R 3 w base ok v11 x.f6) : k47.M w base ok x [.string x.f0, .string x.f1, .int .i64 x.f2, .int .i64 x.f3.f0.f0, .int .i64 x.f3.f0.f1, .int .i64 x.f3.f0.f2, .int .i64 x.f3.f1.f0, .int .i64 x.f3.f1.f1, .int .i64 x.f3.f1.f2, .int .i64 x.f4, v10, v11] := ⟨[.string x.f0], [.string x.f1, .int .i64 x.f2, .int .i64 x.f3.f0.f0, .int .i64 x.f3.f0.f1, .int .i64 x.f3.f0.f2, .int .i64 x.f3.f1.f0, .int .i64 x.f3.f1.f1, .int .i64 x.f3.f1.f2, .int .i64 x.f4, v10, v11], rfl, rfl, ⟨[.string x.f1], [.int .i64 x.f2, .int .i64 x.f3.f0.f0, .int .i64 x.f3.f0.f1, .int .i64 x.f3.f0.f2, .int .i64 x.f3.f1.f0, .int .i64 x.f3.f1.f1, .int .i64 x.f3.f1.f2, .int .i64 x.f4, v10, v11], rfl, rfl, ⟨[.int .i64 x.f2], [.int .i64 x.f3.f0.f0, .int .i64 x.f3.f0.f1, .int .i64 x.f3.f0.f2, .int .i64 x.f3.f1.f0, .int .i64 x.f3.f1.f1, .int .i64 x.f3.f1.f2, .int .i64 x.f4, v10, v11], rfl, rfl, ⟨[.int .i64 x.f3.f0.f0, .int .i64 x.f3.f0.f1, .int .i64 x.f3.f0.f2, .int .i64 x.f3.f1.f0, .int .i64 x.f3.f1.f1, .int .i64 x.f3.f1.f2], [.int .i64 x.f4, v10, v11], rfl, (k45_mkM w base ok x.f3 ), ⟨[.int .i64 x.f4], [v10, v11], rfl, rfl, ⟨[v10], [v11], rfl, ⟨v10, rfl, g10⟩, ⟨v11, rfl, g11⟩⟩⟩⟩⟩⟩⟩
theorem k47_openF {W : World} {ok : Nat → Prop} {x : S47} {cs : List Value} (h : Kd.FK k47 W ok x cs) : ∃ A10 c10 A11 c11, cs = [.string x.f0, .string x.f1, .int .i64 x.f2, .int .i64 x.f3.f0.f0, .int .i64 x.f3.f0.f1, .int .i64 x.f3.f0.f2, .int .i64 x.f3.f1.f0, .int .i64 x.f3.f1.f1, .int .i64 x.f3.f1.f2, .int .i64 x.f4, .slice A10 x.f5.length c10, .slice A11 x.f6.length c11] ∧ x.f5.length ≤ c10 ∧ Kd.F (Kd.int .i64) W ok A10 x.f5.length x.f5 ∧ x.f6.length ≤ c11 ∧ Kd.F (Kd.int .i64) W ok A11 x.f6.length x.f6 := by
  obtain ⟨A10, c10, A11, c11, rfl, l10, _, l11, _⟩ := k47_open (Kd.FK_now h)
  exact ⟨A10, c10, A11, c11, rfl, l10, (fun W' hW => by obtain ⟨A10_, c10_, A11_, c11_, he, l10_, g10_, l11_, g11_⟩ := k47_open (h W' hW); injection (Option.some.inj (show some (Value.slice A10 x.f5.length c10) = some (Value.slice A10_ x.f5.length c10_) from congrArg (fun l => l[10]?) he)) with ha_ _ _; rw [ha_]; exact g10_), l11, (fun W' hW => by obtain ⟨A10_, c10_, A11_, c11_, he, l10_, g10_, l11_, g11_⟩ := k47_open (h W' hW); injection (Option.some.inj (show some (Value.slice A11 x.f6.length c11) = some (Value.slice A11_ x.f6.length c11_) from congrArg (fun l => l[11]?) he)) with ha_ _ _; rw [ha_]; exact g11_)⟩
theorem k47_mkF (W : World) (ok : Nat → Prop) (x : S47) {A10 : Option Addr} {c10 : Nat} (l10 : x.f5.length ≤ c10) (g10 : Kd.F (Kd.int .i64) W ok A10 x.f5.length x.f5) {A11 : Option Addr} {c11 : Nat} (l11 : x.f6.length ≤ c11) (g11 : Kd.F (Kd.int .i64) W ok A11 x.f6.length x.f6) : Kd.FK k47 W ok x [.string x.f0, .string x.f1, .int .i64 x.f2, .int .i64 x.f3.f0.f0, .int .i64 x.f3.f0.f1, .int .i64 x.f3.f0.f2, .int .i64 x.f3.f1.f0, .int .i64 x.f3.f1.f1, .int .i64 x.f3.f1.f2, .int .i64 x.f4, .slice A10 x.f5.length c10, .slice A11 x.f6.length c11] := fun W2 hW => k47_mk W2 x l10 (g10 W2 hW) l11 (g11 W2 hW)
def rd_T47 (xs : List S47) (i : Int) : S47 := xs.getD i.toNat z47
theorem at_T47 {w : World} {A : Option Addr} {n : Nat} {xs : List S47} (h : Kd.C k47 w A n xs) (i : Int) (h0 : 0 ≤ i) (h1 : i < n) : ∃ ad A10 c10 A11 c11, A = some ad ∧ w.cell? (ad.add (i.toNat * 12)) = some (.string (rd_T47 xs i).f0) ∧ w.cell? ⟨(ad.add (i.toNat * 12)).block, (ad.add (i.toNat * 12)).off + 1, none⟩ = some (.string (rd_T47 xs i).f1) ∧ w.cell? ⟨(ad.add (i.toNat * 12)).block, (ad.add (i.toNat * 12)).off + 2, none⟩ = some (.int .i64 (rd_T47 xs i).f2) ∧ w.cell? ⟨(ad.add (i.toNat * 12)).block, (ad.add (i.toNat * 12)).off + 3, none⟩ = some (.int .i64 (rd_T47 xs i).f3.f0.f0) ∧ w.cell? ⟨(ad.add (i.toNat * 12)).block, (ad.add (i.toNat * 12)).off + 4, none⟩ = some (.int .i64 (rd_T47 xs i).f3.f0.f1) ∧ w.cell? ⟨(ad.add (i.toNat * 12)).block, (ad.add (i.toNat * 12)).off + 5, none⟩ = some (.int .i64 (rd_T47 xs i).f3.f0.f2) ∧ w.cell? ⟨(ad.add (i.toNat * 12)).block, (ad.add (i.toNat * 12)).off + 6, none⟩ = some (.int .i64 (rd_T47 xs i).f3.f1.f0) ∧ w.cell? ⟨(ad.add (i.toNat * 12)).block, (ad.add (i.toNat * 12)).off + 7, none⟩ = some (.int .i64 (rd_T47 xs i).f3.f1.f1) ∧ w.cell? ⟨(ad.add (i.toNat * 12)).block, (ad.add (i.toNat * 12)).off + 8, none⟩ = some (.int .i64 (rd_T47 xs i).f3.f1.f2) ∧ w.cell? ⟨(ad.add (i.toNat * 12)).block, (ad.add (i.toNat * 12)).off + 9, none⟩ = some (.int .i64 (rd_T47 xs i).f4) ∧ w.cell? ⟨(ad.add (i.toNat * 12)).block, (ad.add (i.toNat * 12)).off + 10, none⟩ = some (.slice A10 (rd_T47 xs i).f5.length c10) ∧ w.cell? ⟨(ad.add (i.toNat * 12)).block, (ad.add (i.toNat * 12)).off + 11, none⟩ = some (.slice A11 (rd_T47 xs i).f6.length c11) ∧ (rd_T47 xs i).f5.length ≤ c10 ∧ (Kd.int .i64).C w A10 (rd_T47 xs i).f5.length (rd_T47 xs i).f5 ∧ (rd_T47 xs i).f6.length ≤ c11 ∧ (Kd.int .i64).C w A11 (rd_T47 xs i).f6.length (rd_T47 xs i).f6 := by
  obtain ⟨ad, c, e, _, hK, hc0⟩ := Kd.C_get h z47 i h0 h1
  have hc : ∀ j u, c[j]? = some u → w.cell? (ad.add (i.toNat * 12 + j)) = some u := hc0
  obtain ⟨A10, c10, A11, c11, rfl, l10, g10, l11, g11⟩ := k47_open hK
  exact ⟨ad, A10, c10, A11, c11, e, hc 0 _ rfl, by rw [← add_field _ _ 1 (by omega)]; exact hc 1 _ rfl, by rw [← add_field _ _ 2 (by omega)]; exact hc 2 _ rfl, by rw [← add_field _ _ 3 (by omega)]; exact hc 3 _ rfl, by rw [← add_field _ _ 4 (by omega)]; exact hc 4 _ rfl, by rw [← add_field _ _ 5 (by omega)]; exact hc 5 _ rfl, by rw [← add_field _ _ 6 (by omega)]; exact hc 6 _ rfl, by rw [← add_field _ _ 7 (by omega)]; exact hc 7 _ rfl, by rw [← add_field _ _ 8 (by omega)]; exact hc 8 _ rfl, by rw [← add_field _ _ 9 (by omega)]; exact hc 9 _ rfl, by rw [← add_field _ _ 10 (by omega)]; exact hc 10 _ rfl, by rw [← add_field _ _ 11 (by omega)]; exact hc 11 _ rfl, l10, g10, l11, g11⟩

end Go.Proofs.Ytejnelflfldfgaa.XA
