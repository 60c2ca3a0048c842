/- Every argument that can be read as data of a type is a value of the matching kind: integers, bools, strings, structs, arrays, slices of whatever kind. -/
import Derived.Test.YtgacodhpniehiaaWMoreSlim
import Derived.OpenShut
import Derived.ChangeMaps5
import Derived.Deep.Slices
namespace Go.Proofs.Ytgacodhpniehiaa.Opens
open Go.RowKit Go.Proofs.YtgacodhpniehiaaW.PrintWords Go.Deep Go.WideShapes Go.ChangeShapes

def gInt (k : IntKind) (n : Int) : Prop := (Lit.int k n).wf = true
def gBool (_b : Bool) : Prop := True
def gStr (s : ByteArray) : Prop := s.size ≤ maxLen
def gSl {α : Type} (g : α → Prop) (xs : List α) : Prop := xs.length ≤ maxLen ∧ ∀ x ∈ xs, g x
def gPair {α β : Type} (g : α → Prop) (h : β → Prop) (x : α × β) : Prop := g x.1 ∧ h x.2
def Opens (P : Program) (t : TypeId) {α : Type} (d : Kd α) (g : α → Prop) : Prop :=
  ∀ (H : Type) (enc : TypeId × Value → H) (w : World) (base : Nat) (spare : Nat → Bool) (held : Bool) (fuel : Nat) (cs : List Value) (x : DataW H × List MemPlace),
    DataW.trod enc P w base spare held fuel t cs = some x → ∃ a, d.K w a cs ∧ g a

theorem opens_int {P : Program} {t : TypeId} {k : IntKind} (ht : P.underlying t = some (.int k)) : Opens P t (Kd.int k) (gInt k) := by
  intro H enc w base spare held fuel cs x h
  obtain ⟨n, rfl, _, hw⟩ := DataW.trod_int ht h
  exact ⟨n, rfl, hw⟩
theorem opens_bool {P : Program} {t : TypeId} (ht : P.underlying t = some .bool) : Opens P t Kd.bool gBool := by
  intro H enc w base spare held fuel cs x h
  obtain ⟨n, rfl, _⟩ := DataW.trod_bool ht h
  exact ⟨n, rfl, trivial⟩
theorem opens_string {P : Program} {t : TypeId} (ht : P.underlying t = some .string) : Opens P t Kd.string gStr := by
  intro H enc w base spare held fuel cs x h
  obtain ⟨n, rfl, _, hs⟩ := DataW.trod_string ht h
  exact ⟨n, rfl, hs⟩
theorem opens_slice {P : Program} {t e : TypeId} {α : Type} {d : Kd α} {g : α → Prop} (ht : P.underlying t = some (.slice e)) (hsz : P.cellsOf e = d.sz) (he : Opens P e d g) :
    Opens P t (Kd.slice e d) (gSl g) := by
  intro H enc w base spare held fuel cs x h
  rcases open_slice ht h with ⟨rfl, _⟩ | ⟨a, len, cap, m, n, D, Pl, rfl, hb, hl, hm, hmm, _, hx⟩
  · exact ⟨[], ⟨none, 0, rfl, Nat.le_refl _, ⟨rfl, by simp, fun h => absurd h (Nat.lt_irrefl 0)⟩⟩, by simp [gSl]⟩
  · have hle : len ≤ m := by rw [hmm]; split <;> omega
    have key : ∀ i, i < len → ∃ y : α, ∃ c : List Value, c.length = d.sz ∧ d.K w y c ∧ g y ∧ ∀ j u, c[j]? = some u → w.cell? (a.add (i * d.sz + j)) = some u := by
      intro i hi
      obtain ⟨cs', h1, h2⟩ := hx i (by omega)
      obtain ⟨y, hy, hg⟩ := he _ _ _ _ _ _ _ _ _ h2
      obtain ⟨_, hlen, hc⟩ := World.cells?_some h1
      refine ⟨y, cs', d.K_len hy, hy, hg, fun j u hu => ?_⟩
      have hj := (List.getElem?_eq_some_iff.1 hu).1
      rw [← hu, ← hc j (by omega), hsz, Go.Deep.add_add]
    rcases Nat.eq_zero_or_pos len with h0 | h0
    · subst h0
      exact ⟨[], ⟨some a, cap, rfl, Nat.zero_le _, ⟨rfl, by simp, fun h => absurd h (Nat.lt_irrefl 0)⟩⟩, by simp [gSl]⟩
    · obtain ⟨y0, _⟩ := key 0 h0
      haveI : Inhabited α := ⟨y0⟩
      obtain ⟨f, hf⟩ := choose_lt key
      have hlf : ((List.range len).map f).length = len := by simp
      have hmx : len ≤ maxLen := by omega
      refine ⟨(List.range len).map f, ⟨some a, cap, by rw [hlf], by rw [hlf]; exact hl, ⟨rfl, by rw [hlf]; simpa [maxLen] using hmx, fun _ => ⟨a, rfl, fun j p hj => ?_⟩⟩⟩, by rw [hlf]; exact hmx, ?_⟩
      · have hjl := (List.getElem?_eq_some_iff.1 hj).1
        rw [hlf] at hjl
        obtain rfl : f j = p := by
          rw [List.getElem?_map, List.getElem?_range hjl] at hj
          simpa using hj
        obtain ⟨c, h1, h2, _, h3⟩ := hf j hjl
        exact ⟨c, h1, h2, h3⟩
      · intro y hy
        obtain ⟨i, hi, rfl⟩ := List.mem_map.1 hy
        obtain ⟨_, _, _, h3, _⟩ := hf i (List.mem_range.1 hi)
        exact h3
theorem opens_iso {P : Program} {t : TypeId} {α β : Type} {d : Kd α} {g : α → Prop} (h : Opens P t d g) (f : β → α) (q : α → β) (hq : ∀ a, f (q a) = a) : Opens P t (Kd.iso d f) (fun x => g (f x)) := by
  intro H enc w base spare held fuel cs x hx
  obtain ⟨a, h1, h2⟩ := h _ _ _ _ _ _ _ _ _ hx
  exact ⟨q a, by show d.K w (f (q a)) cs; rw [hq]; exact h1, by show g (f (q a)); rw [hq]; exact h2⟩
/-- Fields from a place on: what is read there is of kind d, which takes d.sz cells. -/
def OpensAt (P : Program) (fs : List (TypeId × Nat)) (o : Nat) {α : Type} (d : Kd α) (g : α → Prop) : Prop :=
  ∀ (H : Type) (enc : TypeId × Value → H) (w : World) (base : Nat) (spare : Nat → Bool) (held : Bool) (fuel : Nat) (cs : List Value),
    (∀ (i : Nat) (t : TypeId) (p : Nat), fs[i]? = some (t, p) → ∃ x, DataW.trod enc P w base spare held fuel t ((cs.drop p).take (P.cellsOf t)) = some x) → ∃ a, d.K w a ((cs.drop o).take d.sz) ∧ g a
theorem at_one {P : Program} {t : TypeId} {o : Nat} {α : Type} {d : Kd α} {g : α → Prop} (h : Opens P t d g) (hsz : P.cellsOf t = d.sz) : OpensAt P [(t, o)] o d g := by
  intro H enc w base spare held fuel cs hx
  obtain ⟨x, hx⟩ := hx 0 t o rfl
  rw [hsz] at hx
  exact h _ _ _ _ _ _ _ _ _ hx
theorem at_cons {P : Program} {t : TypeId} {fs : List (TypeId × Nat)} {o o' : Nat} {α β : Type} {d : Kd α} {g : α → Prop} {d' : Kd β} {g' : β → Prop} (h : Opens P t d g) (hsz : P.cellsOf t = d.sz) (ho : o' = o + d.sz)
    (hr : OpensAt P fs o' d' g') : OpensAt P ((t, o) :: fs) o (Kd.pair d d') (gPair g g') := by
  intro H enc w base spare held fuel cs hx
  obtain ⟨x, h0⟩ := hx 0 t o rfl
  rw [hsz] at h0
  obtain ⟨a, ha, ga⟩ := h _ _ _ _ _ _ _ _ _ h0
  obtain ⟨b, hb, gb⟩ := hr _ enc w base spare held fuel cs (fun i t p hi => hx (i + 1) t p hi)
  refine ⟨(a, b), ⟨_, _, ?_, ha, hb⟩, ga, gb⟩
  subst ho
  show (cs.drop o).take (d.sz + d'.sz) = _
  rw [List.take_add, List.drop_drop]
theorem opens_struct {P : Program} {t : TypeId} {fs : Array Field} {α : Type} {d : Kd α} {g : α → Prop} (ht : P.underlying t = some (.struct fs)) (hsz : P.cellsOf t = d.sz)
    (h : OpensAt P (fs.toList.map fun f => (f.type, f.offset)) 0 d g) : Opens P t d g := by
  intro H enc w base spare held fuel cs x hx
  obtain ⟨xs, n, _, _, hl, hxl, hf⟩ := DataW.trod_struct ht hx
  obtain ⟨a, ha, ga⟩ := h _ enc w base spare held n cs (fun i t p hi => by
    rw [List.getElem?_map] at hi
    obtain ⟨f, hfi, he⟩ := Option.map_eq_some_iff.1 hi
    simp only [Prod.mk.injEq] at he
    obtain ⟨rfl, rfl⟩ := he
    have hlt : i < fs.size := by have := (List.getElem?_eq_some_iff.1 hfi).1; simpa using this
    have h1 := hf i f (by rw [← Array.getElem?_toList]; exact hfi)
    exact ⟨_, h1.trans (List.getElem?_eq_getElem (by omega))⟩)
  refine ⟨a, ?_, ga⟩
  rw [List.drop_zero, ← hsz, ← hl, List.take_length] at ha
  exact ha
theorem opens_array {P : Program} {t e : TypeId} {n : Nat} {α : Type} {d : Kd α} {g : α → Prop} (ht : P.underlying t = some (.array n e)) (hsz : P.cellsOf t = d.sz)
    (h : OpensAt P ((List.range n).map fun i => (e, i * P.cellsOf e)) 0 d g) : Opens P t d g := by
  intro H enc w base spare held fuel cs x hx
  obtain ⟨xs, m, _, _, hl, hxl, hf⟩ := DataW.trod_array ht hx
  obtain ⟨a, ha, ga⟩ := h _ enc w base spare held m cs (fun i t p hi => by
    rw [List.getElem?_map] at hi
    obtain ⟨f, hfi, he⟩ := Option.map_eq_some_iff.1 hi
    simp only [Prod.mk.injEq] at he
    obtain ⟨rfl, rfl⟩ := he
    have hlt := (List.getElem?_eq_some_iff.1 hfi).1
    simp at hlt
    rw [List.getElem?_range hlt] at hfi
    obtain rfl : i = f := by simpa using hfi
    exact ⟨_, (hf i hlt).trans (List.getElem?_eq_getElem (by omega))⟩)
  refine ⟨a, ?_, ga⟩
  rw [List.drop_zero, ← hsz, ← hl, List.take_length] at ha
  exact ha
/-- An argument that is a struct (or an array) by value: its cells. -/
theorem agg_cells {P : Program} {w : World} {r : Reach} {b0 : Nat} {t : TypeId} {fs : Array Field} {v : Value} (ht : P.underlying t = some (.struct fs)) (hv : Value.okWide P w r b0 t v) : v = .agg v.cells.toList.toArray := by
  obtain ⟨cs, rfl, _⟩ := okWide_struct ht hv
  simp [Value.cells]
theorem slice_cells {P : Program} {w : World} {r : Reach} {b0 : Nat} {t e : TypeId} {v : Value} (ht : P.underlying t = some (.slice e)) (hv : Value.okWide P w r b0 t v) : v.cells.toList = [v] := by
  obtain ⟨a, l, c, rfl⟩ := okWide_slice ht hv
  rfl
theorem gInt_i64 {n : Int} (h : gInt .i64 n) : -9223372036854775808 ≤ n ∧ n ≤ 9223372036854775807 := bounds_i64 h
theorem cell_some (w : World) (p q : Addr) (v : Value) : ((w.setCell p v).cell? q).isSome = (w.cell? q).isSome := by
  unfold World.cell? World.setCell
  simp only [Array.getElem?_modify]
  by_cases h : p.block = q.block
  · rw [if_pos h]
    cases hq : w.heap[q.block]? with
    | none => simp
    | some o =>
      cases o with
      | cells c e f =>
        simp only [Option.map_some]
        by_cases h1 : q.spot.isSome = true
        · simp [h1]
        · by_cases h2 : p.spot.isSome = true
          · simp [h1, h2]
          · rw [if_neg h1, if_neg h1, if_neg h2]
            by_cases h3 : q.off < c.size
            · simp [h3]
            · simp [h3]
      | _ => simp
  · rw [if_neg h]
theorem cell_same {w : World} {p : Addr} {v : Value} (h : (w.cell? p).isSome = true) : (w.setCell p v).cell? p = some v := by
  obtain ⟨u, hu⟩ := Option.isSome_iff_exists.1 h
  exact World.cell?_setCell_same w p v hu
/-- Whatever is the call's own is younger than a package-level variable. -/
theorem R_neo {α : Type} {d : Kd α} {e base g : Nat} {ok : Nat → Prop} {w : World} {v : Value} {xs : List α} (h : d.R e w base ok v xs) (hg : g < base) : some g ≠ v.ownBlock := fun e_ => absurd (Kd.R_base h _ e_.symm) (Nat.not_le.2 hg)
theorem S_neo {α : Type} {d : Kd α} {e base g : Nat} {ok : Nat → Prop} {w : World} {v : Value} {xs : List α} (h : Kd.S d e w base ok v xs) (hg : g < base) : some g ≠ v.ownBlock := fun e_ => absurd (Kd.S_base h _ e_.symm) (Nat.not_le.2 hg)
/-- Two arrays of two places each, compared. -/
theorem eqArr2 {P : Program} {t e : TypeId} {d : Nat} {w : World} {x0 x1 y0 y1 : Value} {b0 b1 : Bool} (ht : P.underlying t = some (.array 2 e)) (hs : (sizeOf e).run P w = .ok 1 w)
    (p0 : (part e #[x0, x1] 0).run P w = .ok x0 w) (p1 : (part e #[x0, x1] 1).run P w = .ok x1 w) (q0 : (part e #[y0, y1] 0).run P w = .ok y0 w) (q1 : (part e #[y0, y1] 1).run P w = .ok y1 w)
    (h0 : (Op.equalIn d e x0 y0).run P w = .ok b0 w) (h1 : (Op.equalIn d e x1 y1).run P w = .ok b1 w) :
    (Op.equalIn (d + 1) t (.agg #[x0, x1]) (.agg #[y0, y1])).run P w = .ok (b0 && b1) w := by
  simp only [Op.equalIn, Sem.run_bind, run_underlying ht, Result.andThen_ok, hs]
  rw [Std.Legacy.Range.forIn_eq_forIn_range']
  have e2 : List.range' (0 : Nat) 2 1 = [0, 1] := rfl
  simp only [Std.Legacy.Range.size, Nat.sub_zero, Nat.add_sub_cancel, Nat.div_one, e2, List.forIn_cons, List.forIn_nil, Sem.run_bind, Nat.zero_mul, Nat.one_mul, p0, q0, Result.andThen_ok, h0]
  cases b0 <;> cases b1 <;> simp [h1, p1, q1]
end Go.Proofs.Ytgacodhpniehiaa.Opens
