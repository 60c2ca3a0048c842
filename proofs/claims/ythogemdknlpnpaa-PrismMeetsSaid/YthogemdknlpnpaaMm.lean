import Derived.Test.YthogemdknlpnpaaXAx0
import Derived.Test.YthogemdknlpnpaaXAx12
import Derived.Test.YthogemdknlpnpaaXAx14
import Derived.Test.YthogemdknlpnpaaXAx20
import Derived.Test.YthogemdknlpnpaaXAx27
import Derived.Test.YthogemdknlpnpaaXAx28
import Derived.Test.YthogemdknlpnpaaXAx29
import Derived.Test.YthogemdknlpnpaaHa
import Derived.Test.YthogemdknlpnpaaHc
import Derived.Test.YthogemdknlpnpaaMl
namespace Go.Proofs.Ythogemdknlpnpaa.Pure
open Go.RowKit Go.Proofs.Ythogemdknlpnpaa.Opens Go.Proofs.Ythogemdknlpnpaa.XA Go.Proofs.YthogemdknlpnpaaW.PrintWords Go.Proofs.YthogemdknlpnpaaW.PrintLast Go.Proofs.Ythogemdknlpnpaa.Geo
set_option linter.unusedVariables false
set_option linter.unusedSimpArgs false
/-- The corners of a polygon all lie on the line from a to b, or on the right of it. -/
def dv (a b : Int × Int) (L : List S60) : Bool := L.all fun c => decide (cr3 a b (c.f0, c.f1) ≤ 0)
theorem okc_rd {L : List S60} (h : L.all okc = true) {j : Nat} (hj : j < L.length) : Okp ((rd_T60 L (j : Int)).f0, (rd_T60 L (j : Int)).f1) :=
  okc_p (List.all_eq_true.1 h _ (rd_mem L j hj))
theorem dvl {a b : Int × Int} (ha : Okp a) (hb : Okp b) {L : List S60} (hL : L.all okc = true) (hn : L.length < 1000) : ∀ (m i k : Nat), i + m = L.length → m < k →
    prism_divides.l0 k L (L.length : Int) (i : Int) a.1 a.2 b.1 b.2 = some (dv a b (L.drop i)) := by
  intro m
  induction m with
  | zero =>
    intro i k hm hk
    obtain ⟨k, rfl⟩ : ∃ q, k = q + 1 := ⟨k - 1, by omega⟩
    unfold prism_divides.l0
    rw [if_neg (by omega), List.drop_eq_nil_of_le (by omega)]; rfl
  | succ m ih =>
    intro i k hm hk
    obtain ⟨k, rfl⟩ : ∃ q, k = q + 1 := ⟨k - 1, by omega⟩
    unfold prism_divides.l0
    rw [if_pos (by omega), if_pos (by omega), if_pos (by omega), cross_f ha hb (okc_rd hL (j := i) (by omega)), drop_rd L i (by omega), wr (x := (i : Int) + 1) (by omega)]
    simp only [Option.bind_some]
    have := ih (i + 1) k (by omega) (by omega)
    by_cases q : cr3 a b ((rd_T60 L (i : Int)).f0, (rd_T60 L (i : Int)).f1) > 0
    · rw [if_pos q]
      simp only [dv, List.all_cons, decide_eq_false (show ¬ cr3 a b ((rd_T60 L (i : Int)).f0, (rd_T60 L (i : Int)).f1) ≤ 0 by omega), Bool.false_and]
    · rw [if_neg q, show (i : Int) + 1 = ((i + 1 : Nat) : Int) by omega, this]
      simp only [dv, List.all_cons, decide_eq_true (show cr3 a b ((rd_T60 L (i : Int)).f0, (rd_T60 L (i : Int)).f1) ≤ 0 by omega), Bool.true_and]
theorem dv_k {a b : Int × Int} (ha : Okp a) (hb : Okp b) {L : List S60} (hL : L.all okc = true) (hn : L.length < 1000) {k : Nat} (hk : L.length < k) : prism_divides.f k a.1 a.2 b.1 b.2 L = some (dv a b L) := by
  unfold prism_divides.f
  exact dvl ha hb hL hn L.length 0 k (by omega) hk
/-- The first edge from i on, of m, that separates, or -1. -/
def fe (l L : List S60) : Nat → Nat → Int
  | _, 0 => -1
  | i, m + 1 => if dv (pt l i) (pt l (i + 1)) L = true then (i : Int) else fe l L (i + 1) m
theorem edg_k {l L : List S60} (hn : l.length < 1000) (ok : ∀ j, Okp (pt l j)) (hL : L.all okc = true) (hN : L.length < 1000) {k : Nat} (hk : L.length < k) : ∀ (m i : Nat), i + m = l.length →
    edg k L ((List.range' i m).map (edge_at l)) = some (fe l L i m)
  | 0, i, h => rfl
  | m + 1, i, h => by
    have e1 := edge_1 (l := l) (j := i) (by omega)
    have e2 := edge_2 (l := l) (j := i) (by omega)
    have d := dv_k (ok i) (ok (i + 1)) hL hN hk
    simp only [List.range'_succ, List.map_cons, edg]
    rw [show (edge_at l i).2.1.f0 = (pt l i).1 by rw [← e1], show (edge_at l i).2.1.f1 = (pt l i).2 by rw [← e1], show (edge_at l i).2.2.f0 = (pt l (i + 1)).1 by rw [← e2], show (edge_at l i).2.2.f1 = (pt l (i + 1)).2 by rw [← e2], d]
    simp only [Option.bind_some, fe]
    split
    · simp only [edge_at, Nat.mod_eq_of_lt (show i < 1000 by omega)]
    · exact edg_k hn ok hL hN hk m (i + 1) (by omega)
/-- The first separating edge, or -1. -/
def sep (l L : List S60) : Int := fe l L 0 l.length
theorem edge_k {l L : List S60} (h0 : 0 < l.length) (hn : l.length < 1000) (ok : ∀ j, Okp (pt l j)) (hL : L.all okc = true) (hN : L.length < 1000) {k : Nat} (hk : L.length < k) : prism_edge.f k l L = some (sep l L) := by
  unfold prism_edge.f
  have e : edge_upto l l.length = (List.range' 0 l.length).map (edge_at l) := by simp only [edge_upto, List.range_eq_range']
  rw [if_pos ⟨⟨h0, hn⟩, hk, hN⟩, e, edg_k hn ok hL hN hk l.length 0 (by omega)]; rfl
theorem fe_b (l L : List S60) : ∀ m i, fe l L i m = -1 ∨ (∃ j, i ≤ j ∧ j < i + m ∧ fe l L i m = (j : Int) ∧ dv (pt l j) (pt l (j + 1)) L = true ∧ ∀ e, i ≤ e → e < j → dv (pt l e) (pt l (e + 1)) L = false)
  | 0, i => .inl rfl
  | m + 1, i => by
    unfold fe
    split
    · rename_i q; exact .inr ⟨i, by omega, by omega, rfl, q, fun e a b => by omega⟩
    · rename_i q
      rcases fe_b l L m (i + 1) with r | ⟨j, a, b, c, d, f⟩
      · exact .inl r
      · refine .inr ⟨j, by omega, by omega, c, d, fun e h1 h2 => ?_⟩
        by_cases h3 : e = i
        · subst h3; simpa using q
        · exact f e (by omega) h2
theorem fe_neg (l L : List S60) : ∀ m i, fe l L i m < 0 ↔ ∀ j, i ≤ j → j < i + m → dv (pt l j) (pt l (j + 1)) L = false
  | 0, i => ⟨fun _ j a b => by omega, fun _ => by unfold fe; omega⟩
  | m + 1, i => by
    unfold fe
    split
    · rename_i q
      refine ⟨fun a => by omega, fun a => ?_⟩
      rw [a i (by omega) (by omega)] at q; exact absurd q (by decide)
    · rename_i q
      rw [fe_neg l L m (i + 1)]
      refine ⟨fun a j h1 h2 => ?_, fun a j h1 h2 => a j (by omega) (by omega)⟩
      by_cases h3 : j = i
      · subst h3; simpa using q
      · exact a j (by omega) (by omega)
/-- The reference's beyond. -/
theorem byl {l : List S60} (hn : l.length < 1000) (ok : ∀ j, Okp (pt l j)) {e : Nat} (he : e < l.length) {L : List S60} (hL : L.all okc = true) (hN : L.length < 1000) : ∀ (m i k : Nat), i + m = L.length → m < k →
    gangsawref08_beyond.l0 k l (e : Int) L (i : Int) = some (dv (pt l e) (pt l (e + 1)) (L.drop i)) := by
  intro m
  induction m with
  | zero =>
    intro i k hm hk
    obtain ⟨k, rfl⟩ : ∃ q, k = q + 1 := ⟨k - 1, by omega⟩
    unfold gangsawref08_beyond.l0
    rw [if_neg (by omega), List.drop_eq_nil_of_le (by omega)]; rfl
  | succ m ih =>
    intro i k hm hk
    obtain ⟨k, rfl⟩ : ∃ q, k = q + 1 := ⟨k - 1, by omega⟩
    have t : Int.tmod (wrap64 ((e : Int) + 1)) (l.length : Int) = (((e + 1) % l.length : Nat) : Int) := by
      rw [wr (by omega)]; rfl
    have t2 := Nat.mod_lt (e + 1) (show 0 < l.length by omega)
    have e1 := pt_rd he
    have c := rcross_f (ok e) (ok (e + 1)) (okc_rd hL (j := i) (by omega))
    have c' : gangsawref08_Cross.f (rd_T60 l (e : Int)).f0 (rd_T60 l (e : Int)).f1 (rd_T60 l (((e + 1) % l.length : Nat) : Int)).f0 (rd_T60 l (((e + 1) % l.length : Nat) : Int)).f1 (rd_T60 L (i : Int)).f0 (rd_T60 L (i : Int)).f1 = some (cr3 (pt l e) (pt l (e + 1)) ((rd_T60 L (i : Int)).f0, (rd_T60 L (i : Int)).f1)) := by
      rw [← c, e1]; rfl
    unfold gangsawref08_beyond.l0
    rw [t, if_pos (by omega), if_pos (by omega), if_pos (by omega), if_neg (by omega), if_pos (by omega), if_pos (by omega), if_pos (by omega), c', drop_rd L i (by omega), wr (x := (i : Int) + 1) (by omega)]
    simp only [Option.bind_some]
    have := ih (i + 1) k (by omega) (by omega)
    by_cases q : cr3 (pt l e) (pt l (e + 1)) ((rd_T60 L (i : Int)).f0, (rd_T60 L (i : Int)).f1) > 0
    · rw [if_pos q]
      simp only [dv, List.all_cons, decide_eq_false (show ¬ cr3 (pt l e) (pt l (e + 1)) ((rd_T60 L (i : Int)).f0, (rd_T60 L (i : Int)).f1) ≤ 0 by omega), Bool.false_and]
    · rw [if_neg q, show (i : Int) + 1 = ((i + 1 : Nat) : Int) by omega, this]
      simp only [dv, List.all_cons, decide_eq_true (show cr3 (pt l e) (pt l (e + 1)) ((rd_T60 L (i : Int)).f0, (rd_T60 L (i : Int)).f1) ≤ 0 by omega), Bool.true_and]
theorem by_k {l : List S60} (hn : l.length < 1000) (ok : ∀ j, Okp (pt l j)) {e : Nat} (he : e < l.length) {L : List S60} (hL : L.all okc = true) (hN : L.length < 1000) {k : Nat} (hk : L.length < k) : gangsawref08_beyond.f k l (e : Int) L = some (dv (pt l e) (pt l (e + 1)) L) := by
  unfold gangsawref08_beyond.f
  exact byl hn ok he hL hN L.length 0 k (by omega) hk
theorem spl {l : List S60} (hn : l.length < 1000) (ok : ∀ j, Okp (pt l j)) {L : List S60} (hL : L.all okc = true) (hN : L.length < 1000) : ∀ (m i k : Nat), i + m = l.length → m + L.length + 1 < k →
    gangsawref08_separated.l0 k l L (i : Int) = some (decide (0 ≤ fe l L i m)) := by
  intro m
  induction m with
  | zero =>
    intro i k hm hk
    obtain ⟨k, rfl⟩ : ∃ q, k = q + 1 := ⟨k - 1, by omega⟩
    unfold gangsawref08_separated.l0
    rw [if_neg (by omega)]; rfl
  | succ m ih =>
    intro i k hm hk
    obtain ⟨k, rfl⟩ : ∃ q, k = q + 1 := ⟨k - 1, by omega⟩
    unfold gangsawref08_separated.l0
    rw [if_pos (by omega), by_k hn ok (by omega) hL hN (by omega), wr (by omega)]
    simp only [Option.bind_some, fe]
    split
    · rw [decide_eq_true (by omega)]
    · exact ih (i + 1) k (by omega) (by omega)
theorem separated_k {l : List S60} (hn : l.length < 1000) (ok : ∀ j, Okp (pt l j)) {L : List S60} (hL : L.all okc = true) (hN : L.length < 1000) {k : Nat} (hk : l.length + L.length + 1 < k) : gangsawref08_separated.f k l L = some (decide (0 ≤ sep l L)) := by
  unfold gangsawref08_separated.f
  exact spl hn ok hL hN l.length 0 k (by omega) hk
/-- Two prisms overlap. -/
def mt (l : List S60) (lo hi : Int) (L : List S60) (lo' hi' : Int) : Bool := decide (lo < hi') && (decide (lo' < hi) && (decide (sep l L < 0) && decide (sep L l < 0)))
theorem meets_k {l L : List S60} (h0 : 0 < l.length) (hn : l.length ≤ 64) (hl : l.all okc = true) (H0 : 0 < L.length) (hN : L.length ≤ 64) (hL : L.all okc = true) (lo hi lo' hi' : Int) {k : Nat} (hk : 100 ≤ k) : prism_meets.f k l lo hi L lo' hi' = some (mt l lo hi L lo' hi') := by
  unfold prism_meets.f mt
  rw [edge_k h0 (by omega) (ok_pt hl h0) hL (by omega) (by omega), edge_k H0 (by omega) (ok_pt hL H0) hl (by omega) (by omega)]
  simp only [Option.bind_some]
  by_cases a : lo < hi' <;> by_cases b : lo' < hi <;> by_cases c : sep l L < 0 <;> simp [a, b, c]
theorem rmeets_k {l L : List S60} (h0 : 0 < l.length) (hn : l.length ≤ 64) (hl : l.all okc = true) (H0 : 0 < L.length) (hN : L.length ≤ 64) (hL : L.all okc = true) (lo hi lo' hi' : Int) {k : Nat} (hk : 200 ≤ k) : gangsawref08_Meets.f k l lo hi L lo' hi' = some (mt l lo hi L lo' hi') := by
  unfold gangsawref08_Meets.f mt
  rw [separated_k (by omega) (ok_pt hl h0) hL (by omega) (by omega), separated_k (by omega) (ok_pt hL H0) hl (by omega) (by omega)]
  simp only [Option.bind_some]
  by_cases a : lo < hi' <;> by_cases b : lo' < hi <;> by_cases c : sep l L < 0 <;> by_cases d : sep L l < 0 <;> simp [a, b, c, d, show (0 ≤ sep l L) ↔ ¬ sep l L < 0 by omega, show (0 ≤ sep L l) ↔ ¬ sep L l < 0 by omega]
end Go.Proofs.Ythogemdknlpnpaa.Pure
