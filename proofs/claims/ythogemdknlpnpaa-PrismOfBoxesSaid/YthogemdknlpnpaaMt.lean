import Derived.Test.YthogemdknlpnpaaXAx0
import Derived.Test.YthogemdknlpnpaaXAx10
import Derived.Test.YthogemdknlpnpaaXAx11
import Derived.Test.YthogemdknlpnpaaXAx12
import Derived.Test.YthogemdknlpnpaaXAx14
import Derived.Test.YthogemdknlpnpaaXAx15
import Derived.Test.YthogemdknlpnpaaXAx17
import Derived.Test.YthogemdknlpnpaaXAx20
import Derived.Test.YthogemdknlpnpaaXAx26
import Derived.Test.YthogemdknlpnpaaXAx27
import Derived.Test.YthogemdknlpnpaaXAx28
import Derived.Test.YthogemdknlpnpaaXAx29
import Derived.Test.YthogemdknlpnpaaXAx30
import Derived.Test.YthogemdknlpnpaaXAx31
import Derived.Test.YthogemdknlpnpaaXAx36
import Derived.Test.YthogemdknlpnpaaHa
import Derived.Test.YthogemdknlpnpaaHc
import Derived.Test.YthogemdknlpnpaaMs
import Derived.Test.YthogemdknlpnpaaHe
namespace Go.Proofs.Ythogemdknlpnpaa.Pure
open Go.RowKit Go.Proofs.Ythogemdknlpnpaa.Opens Go.Proofs.Ythogemdknlpnpaa.XA Go.Proofs.YthogemdknlpnpaaW.PrintWords Go.Proofs.YthogemdknlpnpaaW.PrintLast Go.Proofs.Ythogemdknlpnpaa.Geo
set_option linter.unusedVariables false
set_option linter.unusedSimpArgs false
/-- The corners of a polygon all lie on the line from a to b, or on the right of it. -/
def dv (a b : Int × Int) (L : List S60) : Bool := L.all fun c => decide (cr3 a b (c.f0, c.f1) ≤ 0)
theorem okc_rd {L : List S60} (h : L.all okc = true) {j : Nat} (hj : j < L.length) : Okp ((rd_T60 L (j : Int)).f0, (rd_T60 L (j : Int)).f1) :=
  okc_p (List.all_eq_true.1 h _ (rd_mem L j hj))
theorem dvl {a b : Int × Int} (ha : Okp a) (hb : Okp b) {L : List S60} (hL : L.all okc = true) (hn : L.length < 1000) : ∀ (m i k : Nat), i + m = L.length → m < k →
    prism_divides.l0 k L (L.length : Int) (i : Int) a.1 a.2 b.1 b.2 = some (dv a b (L.drop i)) := by
  intro m
  induction m with
  | zero =>
    intro i k hm hk
    obtain ⟨k, rfl⟩ : ∃ q, k = q + 1 := ⟨k - 1, by omega⟩
    unfold prism_divides.l0
    rw [if_neg (by omega), List.drop_eq_nil_of_le (by omega)]; rfl
  | succ m ih =>
    intro i k hm hk
    obtain ⟨k, rfl⟩ : ∃ q, k = q + 1 := ⟨k - 1, by omega⟩
    unfold prism_divides.l0
    rw [if_pos (by omega), if_pos (by omega), if_pos (by omega), cross_f ha hb (okc_rd hL (j := i) (by omega)), drop_rd L i (by omega), wr (x := (i : Int) + 1) (by omega)]
    simp only [Option.bind_some]
    have := ih (i + 1) k (by omega) (by omega)
    by_cases q : cr3 a b ((rd_T60 L (i : Int)).f0, (rd_T60 L (i : Int)).f1) > 0
    · rw [if_pos q]
      simp only [dv, List.all_cons, decide_eq_false (show ¬ cr3 a b ((rd_T60 L (i : Int)).f0, (rd_T60 L (i : Int)).f1) ≤ 0 by omega), Bool.false_and]
    · rw [if_neg q, show (i : Int) + 1 = ((i + 1 : Nat) : Int) by omega, this]
      simp only [dv, List.all_cons, decide_eq_true (show cr3 a b ((rd_T60 L (i : Int)).f0, (rd_T60 L (i : Int)).f1) ≤ 0 by omega), Bool.true_and]
theorem dv_k {a b : Int × Int} (ha : Okp a) (hb : Okp b) {L : List S60} (hL : L.all okc = true) (hn : L.length < 1000) {k : Nat} (hk : L.length < k) : prism_divides.f k a.1 a.2 b.1 b.2 L = some (dv a b L) := by
  unfold prism_divides.f
  exact dvl ha hb hL hn L.length 0 k (by omega) hk
/-- The first edge from i on, of m, that separates, or -1. -/
def fe (l L : List S60) : Nat → Nat → Int
  | _, 0 => -1
  | i, m + 1 => if dv (pt l i) (pt l (i + 1)) L = true then (i : Int) else fe l L (i + 1) m
theorem edg_k {l L : List S60} (hn : l.length < 1000) (ok : ∀ j, Okp (pt l j)) (hL : L.all okc = true) (hN : L.length < 1000) {k : Nat} (hk : L.length < k) : ∀ (m i : Nat), i + m = l.length →
    edg k L ((List.range' i m).map (edge_at l)) = some (fe l L i m)
  | 0, i, h => rfl
  | m + 1, i, h => by
    have e1 := edge_1 (l := l) (j := i) (by omega)
    have e2 := edge_2 (l := l) (j := i) (by omega)
    have d := dv_k (ok i) (ok (i + 1)) hL hN hk
    simp only [List.range'_succ, List.map_cons, edg]
    rw [show (edge_at l i).2.1.f0 = (pt l i).1 by rw [← e1], show (edge_at l i).2.1.f1 = (pt l i).2 by rw [← e1], show (edge_at l i).2.2.f0 = (pt l (i + 1)).1 by rw [← e2], show (edge_at l i).2.2.f1 = (pt l (i + 1)).2 by rw [← e2], d]
    simp only [Option.bind_some, fe]
    split
    · simp only [edge_at, Nat.mod_eq_of_lt (show i < 1000 by omega)]
    · exact edg_k hn ok hL hN hk m (i + 1) (by omega)
/-- The first separating edge, or -1. -/
def sep (l L : List S60) : Int := fe l L 0 l.length
theorem edge_k {l L : List S60} (h0 : 0 < l.length) (hn : l.length < 1000) (ok : ∀ j, Okp (pt l j)) (hL : L.all okc = true) (hN : L.length < 1000) {k : Nat} (hk : L.length < k) : prism_edge.f k l L = some (sep l L) := by
  unfold prism_edge.f
  have e : edge_upto l l.length = (List.range' 0 l.length).map (edge_at l) := by simp only [edge_upto, List.range_eq_range']
  rw [if_pos ⟨⟨h0, hn⟩, hk, hN⟩, e, edg_k hn ok hL hN hk l.length 0 (by omega)]; rfl
theorem fe_b (l L : List S60) : ∀ m i, fe l L i m = -1 ∨ (∃ j, i ≤ j ∧ j < i + m ∧ fe l L i m = (j : Int) ∧ dv (pt l j) (pt l (j + 1)) L = true ∧ ∀ e, i ≤ e → e < j → dv (pt l e) (pt l (e + 1)) L = false)
  | 0, i => .inl rfl
  | m + 1, i => by
    unfold fe
    split
    · rename_i q; exact .inr ⟨i, by omega, by omega, rfl, q, fun e a b => by omega⟩
    · rename_i q
      rcases fe_b l L m (i + 1) with r | ⟨j, a, b, c, d, f⟩
      · exact .inl r
      · refine .inr ⟨j, by omega, by omega, c, d, fun e h1 h2 => ?_⟩
        by_cases h3 : e = i
        · subst h3; simpa using q
        · exact f e (by omega) h2
theorem fe_neg (l L : List S60) : ∀ m i, fe l L i m < 0 ↔ ∀ j, i ≤ j → j < i + m → dv (pt l j) (pt l (j + 1)) L = false
  | 0, i => ⟨fun _ j a b => by omega, fun _ => by unfold fe; omega⟩
  | m + 1, i => by
    unfold fe
    split
    · rename_i q
      refine ⟨fun a => by omega, fun a => ?_⟩
      rw [a i (by omega) (by omega)] at q; exact absurd q (by decide)
    · rename_i q
      rw [fe_neg l L m (i + 1)]
      refine ⟨fun a j h1 h2 => ?_, fun a j h1 h2 => a j (by omega) (by omega)⟩
      by_cases h3 : j = i
      · subst h3; simpa using q
      · exact a j (by omega) (by omega)
/-- The reference's beyond. -/
theorem byl {l : List S60} (hn : l.length < 1000) (ok : ∀ j, Okp (pt l j)) {e : Nat} (he : e < l.length) {L : List S60} (hL : L.all okc = true) (hN : L.length < 1000) : ∀ (m i k : Nat), i + m = L.length → m < k →
    gangsawref08_beyond.l0 k l (e : Int) L (i : Int) = some (dv (pt l e) (pt l (e + 1)) (L.drop i)) := by
  intro m
  induction m with
  | zero =>
    intro i k hm hk
    obtain ⟨k, rfl⟩ : ∃ q, k = q + 1 := ⟨k - 1, by omega⟩
    unfold gangsawref08_beyond.l0
    rw [if_neg (by omega), List.drop_eq_nil_of_le (by omega)]; rfl
  | succ m ih =>
    intro i k hm hk
    obtain ⟨k, rfl⟩ : ∃ q, k = q + 1 := ⟨k - 1, by omega⟩
    have t : Int.tmod (wrap64 ((e : Int) + 1)) (l.length : Int) = (((e + 1) % l.length : Nat) : Int) := by
      rw [wr (by omega)]; rfl
    have t2 := Nat.mod_lt (e + 1) (show 0 < l.length by omega)
    have e1 := pt_rd he
    have c := rcross_f (ok e) (ok (e + 1)) (okc_rd hL (j := i) (by omega))
    have c' : gangsawref08_Cross.f (rd_T60 l (e : Int)).f0 (rd_T60 l (e : Int)).f1 (rd_T60 l (((e + 1) % l.length : Nat) : Int)).f0 (rd_T60 l (((e + 1) % l.length : Nat) : Int)).f1 (rd_T60 L (i : Int)).f0 (rd_T60 L (i : Int)).f1 = some (cr3 (pt l e) (pt l (e + 1)) ((rd_T60 L (i : Int)).f0, (rd_T60 L (i : Int)).f1)) := by
      rw [← c, e1]; rfl
    unfold gangsawref08_beyond.l0
    rw [t, if_pos (by omega), if_pos (by omega), if_pos (by omega), if_neg (by omega), if_pos (by omega), if_pos (by omega), if_pos (by omega), c', drop_rd L i (by omega), wr (x := (i : Int) + 1) (by omega)]
    simp only [Option.bind_some]
    have := ih (i + 1) k (by omega) (by omega)
    by_cases q : cr3 (pt l e) (pt l (e + 1)) ((rd_T60 L (i : Int)).f0, (rd_T60 L (i : Int)).f1) > 0
    · rw [if_pos q]
      simp only [dv, List.all_cons, decide_eq_false (show ¬ cr3 (pt l e) (pt l (e + 1)) ((rd_T60 L (i : Int)).f0, (rd_T60 L (i : Int)).f1) ≤ 0 by omega), Bool.false_and]
    · rw [if_neg q, show (i : Int) + 1 = ((i + 1 : Nat) : Int) by omega, this]
      simp only [dv, List.all_cons, decide_eq_true (show cr3 (pt l e) (pt l (e + 1)) ((rd_T60 L (i : Int)).f0, (rd_T60 L (i : Int)).f1) ≤ 0 by omega), Bool.true_and]
theorem by_k {l : List S60} (hn : l.length < 1000) (ok : ∀ j, Okp (pt l j)) {e : Nat} (he : e < l.length) {L : List S60} (hL : L.all okc = true) (hN : L.length < 1000) {k : Nat} (hk : L.length < k) : gangsawref08_beyond.f k l (e : Int) L = some (dv (pt l e) (pt l (e + 1)) L) := by
  unfold gangsawref08_beyond.f
  exact byl hn ok he hL hN L.length 0 k (by omega) hk
theorem spl {l : List S60} (hn : l.length < 1000) (ok : ∀ j, Okp (pt l j)) {L : List S60} (hL : L.all okc = true) (hN : L.length < 1000) : ∀ (m i k : Nat), i + m = l.length → m + L.length + 1 < k →
    gangsawref08_separated.l0 k l L (i : Int) = some (decide (0 ≤ fe l L i m)) := by
  intro m
  induction m with
  | zero =>
    intro i k hm hk
    obtain ⟨k, rfl⟩ : ∃ q, k = q + 1 := ⟨k - 1, by omega⟩
    unfold gangsawref08_separated.l0
    rw [if_neg (by omega)]; rfl
  | succ m ih =>
    intro i k hm hk
    obtain ⟨k, rfl⟩ : ∃ q, k = q + 1 := ⟨k - 1, by omega⟩
    unfold gangsawref08_separated.l0
    rw [if_pos (by omega), by_k hn ok (by omega) hL hN (by omega), wr (by omega)]
    simp only [Option.bind_some, fe]
    split
    · rw [decide_eq_true (by omega)]
    · exact ih (i + 1) k (by omega) (by omega)
theorem separated_k {l : List S60} (hn : l.length < 1000) (ok : ∀ j, Okp (pt l j)) {L : List S60} (hL : L.all okc = true) (hN : L.length < 1000) {k : Nat} (hk : l.length + L.length + 1 < k) : gangsawref08_separated.f k l L = some (decide (0 ≤ sep l L)) := by
  unfold gangsawref08_separated.f
  exact spl hn ok hL hN l.length 0 k (by omega) hk
/-- Two prisms overlap. -/
def mt (l : List S60) (lo hi : Int) (L : List S60) (lo' hi' : Int) : Bool := decide (lo < hi') && (decide (lo' < hi) && (decide (sep l L < 0) && decide (sep L l < 0)))
theorem meets_k {l L : List S60} (h0 : 0 < l.length) (hn : l.length ≤ 64) (hl : l.all okc = true) (H0 : 0 < L.length) (hN : L.length ≤ 64) (hL : L.all okc = true) (lo hi lo' hi' : Int) {k : Nat} (hk : 100 ≤ k) : prism_meets.f k l lo hi L lo' hi' = some (mt l lo hi L lo' hi') := by
  unfold prism_meets.f mt
  rw [edge_k h0 (by omega) (ok_pt hl h0) hL (by omega) (by omega), edge_k H0 (by omega) (ok_pt hL H0) hl (by omega) (by omega)]
  simp only [Option.bind_some]
  by_cases a : lo < hi' <;> by_cases b : lo' < hi <;> by_cases c : sep l L < 0 <;> simp [a, b, c]
theorem rmeets_k {l L : List S60} (h0 : 0 < l.length) (hn : l.length ≤ 64) (hl : l.all okc = true) (H0 : 0 < L.length) (hN : L.length ≤ 64) (hL : L.all okc = true) (lo hi lo' hi' : Int) {k : Nat} (hk : 200 ≤ k) : gangsawref08_Meets.f k l lo hi L lo' hi' = some (mt l lo hi L lo' hi') := by
  unfold gangsawref08_Meets.f mt
  rw [separated_k (by omega) (ok_pt hl h0) hL (by omega) (by omega), separated_k (by omega) (ok_pt hL H0) hl (by omega) (by omega)]
  simp only [Option.bind_some]
  by_cases a : lo < hi' <;> by_cases b : lo' < hi <;> by_cases c : sep l L < 0 <;> by_cases d : sep L l < 0 <;> simp [a, b, c, d, show (0 ≤ sep l L) ↔ ¬ sep l L < 0 by omega, show (0 ≤ sep L l) ↔ ¬ sep L l < 0 by omega]
theorem chk_all {l : List S60} {lo hi : Int} (h : chk l lo hi = 0) : l.all okc = true := by
  unfold chk at h
  split at h
  · omega
  split at h
  · omega
  split at h
  · omega
  rename_i a b c
  rw [Bool.not_eq_false, Bool.and_eq_true] at c
  exact c.1
theorem mt_comm (l L : List S60) (lo hi lo' hi' : Int) : mt l lo hi L lo' hi' = mt L lo' hi' l lo hi := by
  unfold mt
  cases decide (lo < hi') <;> cases decide (lo' < hi) <;> cases decide (sep l L < 0) <;> cases decide (sep L l < 0) <;> rfl
theorem Meets_k (l L : List S60) (lo hi lo' hi' : Int) {k : Nat} (hk : 200 ≤ k) : prism_Meets.f k l lo hi L lo' hi' = some (if chk l lo hi = 0 then (if chk L lo' hi' = 0 then (mt l lo hi L lo' hi', 0) else (false, chk L lo' hi')) else (false, chk l lo hi)) := by
  obtain ⟨k, rfl⟩ : ∃ q, k = q + 10 := ⟨k - 10, by omega⟩
  have r0 : rd_T25 [(⟨l, lo, hi⟩ : S25), ⟨L, lo', hi'⟩] 0 = ⟨l, lo, hi⟩ := rfl
  have r1 : rd_T25 [(⟨l, lo, hi⟩ : S25), ⟨L, lo', hi'⟩] 1 = ⟨L, lo', hi'⟩ := rfl
  have w0 : wrap64 (0 + 1) = 1 := by decide +kernel
  have w1 : wrap64 (1 + 1) = 2 := by decide +kernel
  have c0 := check_k l lo hi (k := k + 9) (by omega)
  have c1 := check_k L lo' hi' (k := k + 8) (by omega)
  simp only [prism_Meets.f, Option.bind_some, List.length_cons, List.length_nil, prism_Meets.l0, r0, r1, w0, w1, c0, c1]
  by_cases a : chk l lo hi = 0
  · by_cases b : chk L lo' hi' = 0
    · obtain ⟨⟨a1, a2⟩, -⟩ := chk_ok a
      obtain ⟨⟨b1, b2⟩, -⟩ := chk_ok b
      have m := meets_k (by omega) a2 (chk_all a) (by omega) b2 (chk_all b) lo hi lo' hi' (k := k + 7) (by omega)
      simp [a, b, m]
    · simp [a, b]
  · simp [a]
/-- The numbers of a valid box. -/
def bx (a b c d e f : Int) : Bool := okn a && (okn b && (okn c && (okn d && (okn e && (okn f && (decide (a < d) && (decide (b < e) && decide (c < f))))))))
theorem valid_f (a b c d e f : Int) : gangsawref08_Valid.f a b c d e f = some (bx a b c d e f) := by
  simp only [gangsawref08_Valid.f, near_f, Option.bind_some, bx]
  cases okn a <;> cases okn b <;> cases okn c <;> cases okn d <;> cases okn e <;> cases okn f <;> simp
  by_cases p : a < d <;> by_cases q : b < e <;> simp [p, q]
theorem boxed_k (a b c d e f : Int) {k : Nat} (hk : 20 ≤ k) : prism_boxed.f k a b c d e f = some (bx a b c d e f) := by
  obtain ⟨k, rfl⟩ : ∃ q, k = q + 20 := ⟨k - 20, by omega⟩
  have w0 : wrap64 (0 + 1) = 1 := by decide +kernel
  have w1 : wrap64 (1 + 1) = 2 := by decide +kernel
  have w2 : wrap64 (2 + 1) = 3 := by decide +kernel
  have w3 : wrap64 (3 + 1) = 4 := by decide +kernel
  have w4 : wrap64 (4 + 1) = 5 := by decide +kernel
  have w5 : wrap64 (5 + 1) = 6 := by decide +kernel
  have r0 : rd [a, b, c, d, e, f] 0 = a := rfl
  have r1 : rd [a, b, c, d, e, f] 1 = b := rfl
  have r2 : rd [a, b, c, d, e, f] 2 = c := rfl
  have r3 : rd [a, b, c, d, e, f] 3 = d := rfl
  have r4 : rd [a, b, c, d, e, f] 4 = e := rfl
  have r5 : rd [a, b, c, d, e, f] 5 = f := rfl
  simp only [prism_boxed.f, prism_boxed.l0, far_f, Option.bind_some, bx, w0, w1, w2, w3, w4, w5, r0, r1, r2, r3, r4, r5, List.length_cons, List.length_nil]
  cases okn a <;> cases okn b <;> cases okn c <;> cases okn d <;> cases okn e <;> cases okn f <;> simp
  by_cases p : a < d <;> by_cases q : b < e <;> simp [p, q]
theorem bx_ok {a b c d e f : Int} (h : bx a b c d e f = true) : (((-1000000 ≤ a ∧ a ≤ 1000000) ∧ (-1000000 ≤ b ∧ b ≤ 1000000) ∧ (-1000000 ≤ c ∧ c ≤ 1000000)) ∧ (-1000000 ≤ d ∧ d ≤ 1000000) ∧ (-1000000 ≤ e ∧ e ≤ 1000000) ∧ (-1000000 ≤ f ∧ f ≤ 1000000)) ∧ a < d ∧ b < e ∧ c < f := by
  simp only [bx, okn, Bool.and_eq_true, decide_eq_true_eq] at h; omega
/-- The rectangle of a box. -/
def q4 (a b d e : Int) : List S60 := [⟨a, b⟩, ⟨d, b⟩, ⟨d, e⟩, ⟨a, e⟩]
theorem q4_ok {a b c d e f : Int} (h : bx a b c d e f = true) : (q4 a b d e).all okc = true := by
  have := bx_ok h
  simp only [q4, List.all_cons, List.all_nil, okc, okn, Bool.and_eq_true, decide_eq_true_eq]
  refine ⟨?_, ?_, ?_, ?_, trivial⟩ <;> constructor <;> omega
/-- The first error of a prism and a box. -/
def bo (l : List S60) (lo hi a b c d e f : Int) : Int := if chk l lo hi = 0 then (if bx a b c d e f = true then 0 else 1) else chk l lo hi
theorem both_k (l : List S60) (lo hi a b c d e f : Int) {k : Nat} (hk : 100 ≤ k) : prism_both.f k l lo hi a b c d e f = some (bo l lo hi a b c d e f) := by
  unfold prism_both.f bo
  rw [check_k l lo hi hk, boxed_k _ _ _ _ _ _ (by omega)]
  simp only [Option.bind_some]
  split
  · split <;> rfl
  · rfl
theorem first_k (l : List S60) (lo hi a b c d e f : Int) {k : Nat} (hk : 6000 ≤ k) : gangsawlaw08_first.f k l lo hi a b c d e f = some (bo l lo hi a b c d e f) := by
  unfold gangsawlaw08_first.f bo
  rw [rcheck_k l lo hi hk, valid_f]
  simp only [Option.bind_some]
  split
  · split <;> rfl
  · rfl
theorem bo_ok {l : List S60} {lo hi a b c d e f : Int} (h : bo l lo hi a b c d e f = 0) : chk l lo hi = 0 ∧ bx a b c d e f = true := by
  unfold bo at h
  split at h
  · split at h
    · rename_i p q; exact ⟨p, q⟩
    · omega
  · contradiction
theorem Overlaps_k (l : List S60) (lo hi a b c d e f : Int) {k : Nat} (hk : 200 ≤ k) : prism_Overlaps.f k l lo hi a b c d e f = some (if bo l lo hi a b c d e f = 0 then (mt l lo hi (q4 a b d e) c f, 0) else (false, bo l lo hi a b c d e f)) := by
  simp only [prism_Overlaps.f, both_k l lo hi a b c d e f (show 100 ≤ k by omega), Option.bind_some, prism_of.f]
  split
  · rename_i h
    obtain ⟨c1, b1⟩ := bo_ok h
    have := (chk_ok c1).1
    rw [show [(⟨a, b⟩ : S60), ⟨d, b⟩, ⟨d, e⟩, ⟨a, e⟩] = q4 a b d e from rfl, meets_k (by omega) (by omega) (chk_all c1) (show 0 < (q4 a b d e).length by simp [q4]) (show (q4 a b d e).length ≤ 64 by simp [q4]) (q4_ok b1) _ _ _ _ (by omega)]; rfl
  · rfl
/-- All corners lie on the line from a to b, or on the left of it. -/
def ce (a b : Int × Int) (L : List S60) : Bool := L.all fun c => !decide (cr3 a b (c.f0, c.f1) < 0)
def ca (l L : List S60) : Nat → Nat → Bool
  | _, 0 => true
  | i, m + 1 => ce (pt l i) (pt l (i + 1)) L && ca l L (i + 1) m
def cv (l L : List S60) : Bool := ca l L 0 l.length
theorem cov_k {l L : List S60} (hn : l.length < 1000) (ok : ∀ j, Okp (pt l j)) (hL : L.all okc = true) : ∀ (m i : Nat), i + m = l.length → covE L ((List.range' i m).map (edge_at l)) = ca l L i m
  | 0, i, h => rfl
  | m + 1, i, h => by
    have e1 := edge_1 (l := l) (j := i) (by omega)
    have e2 := edge_2 (l := l) (j := i) (by omega)
    have := cov_k hn ok hL m (i + 1) (by omega)
    simp only [covE] at this
    simp only [List.range'_succ, List.map_cons, covE, List.all_cons, this, ca]
    congr 1
    have hc : ∀ s ∈ L, cr (edge_at l i) s = cr3 (pt l i) (pt l (i + 1)) (s.f0, s.f1) := fun s hs => by
      have c := cross_f (ok i) (ok (i + 1)) (okc_p (List.all_eq_true.1 hL s hs))
      rw [← e1, ← e2] at c
      simp only [cr, c, Option.getD_some, ← e1, ← e2]
    simp only [inn, ce]
    rw [Bool.eq_iff_iff, List.all_eq_true, List.all_eq_true]
    constructor
    · intro h s hs; rw [← hc s hs]; exact h s hs
    · intro h s hs; rw [hc s hs]; exact h s hs
theorem Covers_k (l : List S60) (lo hi a b c d e f : Int) {k : Nat} (hk : 200 ≤ k) : prism_Covers.f k l lo hi a b c d e f = some (if bo l lo hi a b c d e f = 0 then (cv l (q4 a b d e) && (decide (lo ≤ c) && decide (f ≤ hi)), 0) else (false, bo l lo hi a b c d e f)) := by
  simp only [prism_Covers.f, both_k l lo hi a b c d e f (show 100 ≤ k by omega), Option.bind_some]
  split
  · rename_i h
    obtain ⟨c1, b1⟩ := bo_ok h
    have := (chk_ok c1).1
    have e' : edge_upto l l.length = (List.range' 0 l.length).map (edge_at l) := by simp only [edge_upto, List.range_eq_range']
    rw [if_pos (by omega), show [(⟨a, b⟩ : S60), ⟨d, b⟩, ⟨d, e⟩, ⟨a, e⟩] = q4 a b d e from rfl, e', cov_k (by omega) (chk_ok c1).2.1 (q4_ok b1) l.length 0 (by omega)]; rfl
  · rfl
theorem rcl1 {l : List S60} (hn : l.length < 1000) (ok : ∀ j, Okp (pt l j)) (lo hi : Int) {e : Nat} (he : e < l.length) {L : List S60} (hL : L.all okc = true) (hN : L.length < 1000) : ∀ (m i k : Nat), i + m = L.length →
    gangsawref08_Covers.l1 (m + 1 + k) L (e : Int) (i : Int) l lo hi = if ce (pt l e) (pt l (e + 1)) (L.drop i) = true then gangsawref08_Covers.l0 k L ((e + 1 : Nat) : Int) l lo hi else some false := by
  intro m
  induction m with
  | zero =>
    intro i k hm
    rw [show 0 + 1 + k = k + 1 by omega]
    unfold gangsawref08_Covers.l1
    rw [if_neg (by omega), List.drop_eq_nil_of_le (by omega), wr (by omega)]; rfl
  | succ m ih =>
    intro i k hm
    have t : Int.tmod (wrap64 ((e : Int) + 1)) (l.length : Int) = (((e + 1) % l.length : Nat) : Int) := by
      rw [wr (by omega)]; rfl
    have t2 := Nat.mod_lt (e + 1) (show 0 < l.length by omega)
    have e1 := pt_rd he
    have c := rcross_f (ok e) (ok (e + 1)) (okc_rd hL (j := i) (by omega))
    have c' : gangsawref08_Cross.f (rd_T60 l (e : Int)).f0 (rd_T60 l (e : Int)).f1 (rd_T60 l (((e + 1) % l.length : Nat) : Int)).f0 (rd_T60 l (((e + 1) % l.length : Nat) : Int)).f1 (rd_T60 L (i : Int)).f0 (rd_T60 L (i : Int)).f1 = some (cr3 (pt l e) (pt l (e + 1)) ((rd_T60 L (i : Int)).f0, (rd_T60 L (i : Int)).f1)) := by
      rw [← c, e1]; rfl
    rw [show m + 1 + 1 + k = (m + 1 + k) + 1 by omega]
    unfold gangsawref08_Covers.l1
    rw [t, if_pos (by omega), if_pos (by omega), if_pos (by omega), if_neg (by omega), if_pos (by omega), if_pos (by omega), if_pos (by omega), c', drop_rd L i (by omega), wr (x := (i : Int) + 1) (by omega)]
    simp only [Option.bind_some]
    have := ih (i + 1) k (by omega)
    by_cases q : cr3 (pt l e) (pt l (e + 1)) ((rd_T60 L (i : Int)).f0, (rd_T60 L (i : Int)).f1) < 0
    · rw [if_pos q, if_neg]
      simp only [ce, List.all_cons, decide_eq_true q, Bool.not_true, Bool.false_and, Bool.false_eq_true, not_false_eq_true]
    · rw [if_neg q, show (i : Int) + 1 = ((i + 1 : Nat) : Int) by omega, this]
      simp only [ce, List.all_cons, decide_eq_false q, Bool.not_false, Bool.true_and]
      rfl
theorem rcl0 {l : List S60} (hn : l.length < 1000) (ok : ∀ j, Okp (pt l j)) (lo hi : Int) {L : List S60} (hL : L.all okc = true) (hN : L.length < 1000) : ∀ (m i k : Nat), i + m = l.length →
    gangsawref08_Covers.l0 (m * (L.length + 2) + 1 + k) L (i : Int) l lo hi = some (ca l L i m) := by
  intro m
  induction m with
  | zero =>
    intro i k hm
    rw [show 0 * (L.length + 2) + 1 + k = k + 1 by omega]
    unfold gangsawref08_Covers.l0
    rw [if_neg (by omega)]; rfl
  | succ m ih =>
    intro i k hm
    rw [show (m + 1) * (L.length + 2) + 1 + k = (L.length + 1 + (m * (L.length + 2) + 1 + k)) + 1 by rw [Nat.add_mul]; omega]
    unfold gangsawref08_Covers.l0
    have := rcl1 hn ok lo hi (show i < l.length by omega) hL hN L.length 0 (m * (L.length + 2) + 1 + k) (by omega)
    rw [Int.natCast_zero, List.drop_zero] at this
    rw [if_pos (by omega), this, ih (i + 1) k (by omega)]
    simp only [ca]
    cases ce (pt l i) (pt l (i + 1)) L <;> simp
theorem rcovers_k {l : List S60} (h0 : 0 < l.length) (hn : l.length ≤ 64) (ok : ∀ j, Okp (pt l j)) (lo hi : Int) {a b c d e f : Int} (hb : bx a b c d e f = true) {k : Nat} (hk : 1000 ≤ k) : gangsawref08_Covers.f k l lo hi a b c d e f = some (cv l (q4 a b d e) && (decide (lo ≤ c) && decide (f ≤ hi))) := by
  obtain ⟨q, rfl⟩ : ∃ q, k = (l.length * ((q4 a b d e).length + 2) + 1 + q) + 1 := ⟨k - (l.length * ((q4 a b d e).length + 2) + 2), by simp only [q4, List.length_cons, List.length_nil]; omega⟩
  have := rcl0 (by omega) ok lo hi (q4_ok hb) (show (q4 a b d e).length < 1000 by simp [q4]) l.length 0 q (by omega)
  rw [Int.natCast_zero] at this
  simp only [gangsawref08_Covers.f, gangsawref08_Covers.j0, gangsawref08_Of.f, Option.bind_some, show [(⟨a, b⟩ : S60), ⟨d, b⟩, ⟨d, e⟩, ⟨a, e⟩] = q4 a b d e from rfl, this]
  by_cases p1 : c < lo
  · simp [p1, show ¬ lo ≤ c by omega]
  · by_cases p2 : f > hi
    · simp [p1, p2, show ¬ f ≤ hi by omega]
    · simp [p1, p2, show lo ≤ c by omega, show f ≤ hi by omega, cv]
theorem hl_le0 (t : Int) : ∀ (l : List S60) (h : Int × Int × Int × Int × Int × Int), t ≤ (hl l h).1 ↔ t ≤ h.1 ∧ ∀ s ∈ l, t ≤ s.f0
  | [], h => by simp [hl]
  | s :: l, (a, b, c, d, e, f) => by
    simp only [hl]
    rw [hl_le0 t l]
    simp only [List.mem_cons, forall_eq_or_imp, mn]
    split <;> constructor <;> (rintro ⟨p, q⟩; refine ⟨by omega, ?_⟩) <;> first | exact ⟨by omega, q⟩ | exact q.2
theorem hl_le1 (t : Int) : ∀ (l : List S60) (h : Int × Int × Int × Int × Int × Int), t ≤ (hl l h).2.1 ↔ t ≤ h.2.1 ∧ ∀ s ∈ l, t ≤ s.f1
  | [], h => by simp [hl]
  | s :: l, (a, b, c, d, e, f) => by
    simp only [hl]
    rw [hl_le1 t l]
    simp only [List.mem_cons, forall_eq_or_imp, mn]
    split <;> constructor <;> (rintro ⟨p, q⟩; refine ⟨by omega, ?_⟩) <;> first | exact ⟨by omega, q⟩ | exact q.2
theorem hl_ge0 (t : Int) : ∀ (l : List S60) (h : Int × Int × Int × Int × Int × Int), (hl l h).2.2.2.1 ≤ t ↔ h.2.2.2.1 ≤ t ∧ ∀ s ∈ l, s.f0 ≤ t
  | [], h => by simp [hl]
  | s :: l, (a, b, c, d, e, f) => by
    simp only [hl]
    rw [hl_ge0 t l]
    simp only [List.mem_cons, forall_eq_or_imp, mx]
    split <;> constructor <;> (rintro ⟨p, q⟩; refine ⟨by omega, ?_⟩) <;> first | exact ⟨by omega, q⟩ | exact q.2
theorem hl_ge1 (t : Int) : ∀ (l : List S60) (h : Int × Int × Int × Int × Int × Int), (hl l h).2.2.2.2.1 ≤ t ↔ h.2.2.2.2.1 ≤ t ∧ ∀ s ∈ l, s.f1 ≤ t
  | [], h => by simp [hl]
  | s :: l, (a, b, c, d, e, f) => by
    simp only [hl]
    rw [hl_ge1 t l]
    simp only [List.mem_cons, forall_eq_or_imp, mx]
    split <;> constructor <;> (rintro ⟨p, q⟩; refine ⟨by omega, ?_⟩) <;> first | exact ⟨by omega, q⟩ | exact q.2
theorem hl_z : ∀ (l : List S60) (h : Int × Int × Int × Int × Int × Int), (hl l h).2.2.1 = h.2.2.1 ∧ (hl l h).2.2.2.2.2 = h.2.2.2.2.2
  | [], h => by simp [hl]
  | s :: l, (a, b, c, d, e, f) => by simp only [hl]; exact hl_z l _
theorem hull_0 {l : List S60} (h0 : 0 < l.length) (lo hi t : Int) : t ≤ (hull l lo hi).1 ↔ ∀ s ∈ l, t ≤ s.f0 := by
  unfold hull; rw [hl_le0]
  exact ⟨fun h => h.2, fun h => ⟨h _ (rd_mem l 0 h0), h⟩⟩
theorem hull_1 {l : List S60} (h0 : 0 < l.length) (lo hi t : Int) : t ≤ (hull l lo hi).2.1 ↔ ∀ s ∈ l, t ≤ s.f1 := by
  unfold hull; rw [hl_le1]
  exact ⟨fun h => h.2, fun h => ⟨h _ (rd_mem l 0 h0), h⟩⟩
theorem hull_3 {l : List S60} (h0 : 0 < l.length) (lo hi t : Int) : (hull l lo hi).2.2.2.1 ≤ t ↔ ∀ s ∈ l, s.f0 ≤ t := by
  unfold hull; rw [hl_ge0]
  exact ⟨fun h => h.2, fun h => ⟨h _ (rd_mem l 0 h0), h⟩⟩
theorem hull_4 {l : List S60} (h0 : 0 < l.length) (lo hi t : Int) : (hull l lo hi).2.2.2.2.1 ≤ t ↔ ∀ s ∈ l, s.f1 ≤ t := by
  unfold hull; rw [hl_ge1]
  exact ⟨fun h => h.2, fun h => ⟨h _ (rd_mem l 0 h0), h⟩⟩
theorem mul_np {D w : Int} (hD : 0 < D) : D * w ≤ 0 ↔ w ≤ 0 := by
  constructor
  · intro h
    refine Classical.byContradiction fun p => ?_
    have := Int.mul_pos hD (show 0 < w by omega); omega
  · intro h
    have := Int.mul_nonneg (show 0 ≤ D by omega) (show 0 ≤ -w by omega)
    rw [Int.mul_neg] at this; omega
theorem dv_all {a b : Int × Int} {L : List S60} : dv a b L = true ↔ ∀ s ∈ L, cr3 a b (s.f0, s.f1) ≤ 0 := by
  simp only [dv, List.all_eq_true, decide_eq_true_eq]
/-- What is apart: the sides of the rectangle against the hull. -/
theorem side3 {l : List S60} (h0 : 0 < l.length) (lo hi : Int) {a b d e : Int} (h : b < e) : dv (a, e) (a, b) l = decide ((hull l lo hi).2.2.2.1 ≤ a) := by
  rw [Bool.eq_iff_iff, dv_all, decide_eq_true_eq, hull_3 h0]
  have : ∀ s : S60, cr3 (a, e) (a, b) (s.f0, s.f1) = (e - b) * (s.f0 - a) := fun s => by simp only [cr3]; grind
  simp only [this, mul_np (show 0 < e - b by omega)]
  exact ⟨fun q s hs => by have := q s hs; omega, fun q s hs => by have := q s hs; omega⟩
theorem side1 {l : List S60} (h0 : 0 < l.length) (lo hi : Int) {d b e : Int} (h : b < e) : dv (d, b) (d, e) l = decide ((hull l lo hi).1 ≥ d) := by
  rw [Bool.eq_iff_iff, dv_all, decide_eq_true_eq, ge_iff_le, hull_0 h0]
  have : ∀ s : S60, cr3 (d, b) (d, e) (s.f0, s.f1) = (e - b) * (d - s.f0) := fun s => by simp only [cr3]; grind
  simp only [this, mul_np (show 0 < e - b by omega)]
  exact ⟨fun q s hs => by have := q s hs; omega, fun q s hs => by have := q s hs; omega⟩
theorem side0 {l : List S60} (h0 : 0 < l.length) (lo hi : Int) {a b d : Int} (h : a < d) : dv (a, b) (d, b) l = decide ((hull l lo hi).2.2.2.2.1 ≤ b) := by
  rw [Bool.eq_iff_iff, dv_all, decide_eq_true_eq, hull_4 h0]
  have : ∀ s : S60, cr3 (a, b) (d, b) (s.f0, s.f1) = (d - a) * (s.f1 - b) := fun s => by simp only [cr3]; grind
  simp only [this, mul_np (show 0 < d - a by omega)]
  exact ⟨fun q s hs => by have := q s hs; omega, fun q s hs => by have := q s hs; omega⟩
theorem side2 {l : List S60} (h0 : 0 < l.length) (lo hi : Int) {a d e : Int} (h : a < d) : dv (d, e) (a, e) l = decide ((hull l lo hi).2.1 ≥ e) := by
  rw [Bool.eq_iff_iff, dv_all, decide_eq_true_eq, ge_iff_le, hull_1 h0]
  have : ∀ s : S60, cr3 (d, e) (a, e) (s.f0, s.f1) = (d - a) * (e - s.f1) := fun s => by simp only [cr3]; grind
  simp only [this, mul_np (show 0 < d - a by omega)]
  exact ⟨fun q s hs => by have := q s hs; omega, fun q s hs => by have := q s hs; omega⟩
/-- What separates. -/
def spt (l : List S60) (lo hi a b d e : Int) : Int :=
  if 0 ≤ sep l (q4 a b d e) then sep l (q4 a b d e) else if (hull l lo hi).2.2.2.1 ≤ a then 1000 else if (hull l lo hi).1 ≥ d then 1001 else if (hull l lo hi).2.2.2.2.1 ≤ b then 1002 else if (hull l lo hi).2.1 ≥ e then 1003 else -1
theorem Separator_k (l : List S60) (lo hi a b c d e f : Int) {k : Nat} (hk : 200 ≤ k) : prism_Separator.f k l lo hi a b c d e f = some (if bo l lo hi a b c d e f = 0 then (spt l lo hi a b d e, 0) else (0, bo l lo hi a b c d e f)) := by
  obtain ⟨k, rfl⟩ : ∃ q, k = q + 10 := ⟨k - 10, by omega⟩
  simp only [prism_Separator.f, both_k l lo hi a b c d e f (show 100 ≤ k + 10 by omega), Option.bind_some, prism_of.f]
  split
  · rename_i h
    obtain ⟨c1, b1⟩ := bo_ok h
    have := (chk_ok c1).1
    have w0 : wrap64 (0 + 1) = 1 := by decide +kernel
    have w1 : wrap64 (1 + 1) = 2 := by decide +kernel
    have w2 : wrap64 (2 + 1) = 3 := by decide +kernel
    have w3 : wrap64 (3 + 1) = 4 := by decide +kernel
    have v0 : wrap64 (1000 + 0) = 1000 := by decide +kernel
    have v1 : wrap64 (1000 + 1) = 1001 := by decide +kernel
    have v2 : wrap64 (1000 + 2) = 1002 := by decide +kernel
    have v3 : wrap64 (1000 + 3) = 1003 := by decide +kernel
    rw [show [(⟨a, b⟩ : S60), ⟨d, b⟩, ⟨d, e⟩, ⟨a, e⟩] = q4 a b d e from rfl, edge_k (by omega) (by omega) (chk_ok c1).2.1 (q4_ok b1) (show (q4 a b d e).length < 1000 by simp [q4]) (show (q4 a b d e).length < _ by simp only [q4, List.length_cons, List.length_nil]; omega), hull_k (by omega) (by omega) lo hi (by omega)]
    have r0 : ∀ x0 x1 x2 x3 : Bool, rdOf false [x0, x1, x2, x3] 0 = x0 := fun _ _ _ _ => rfl
    have r1 : ∀ x0 x1 x2 x3 : Bool, rdOf false [x0, x1, x2, x3] 1 = x1 := fun _ _ _ _ => rfl
    have r2 : ∀ x0 x1 x2 x3 : Bool, rdOf false [x0, x1, x2, x3] 2 = x2 := fun _ _ _ _ => rfl
    have r3 : ∀ x0 x1 x2 x3 : Bool, rdOf false [x0, x1, x2, x3] 3 = x3 := fun _ _ _ _ => rfl
    simp only [Option.bind_some, prism_Separator.l0, List.length_cons, List.length_nil, w0, w1, w2, w3, v0, v1, v2, v3, r0, r1, r2, r3, spt, decide_eq_true_eq]
    by_cases q : 0 ≤ sep l (q4 a b d e)
    · simp [q]
    · by_cases q0 : (hull l lo hi).2.2.2.1 ≤ a <;> by_cases q1 : d ≤ (hull l lo hi).1 <;> by_cases q2 : (hull l lo hi).2.2.2.2.1 ≤ b <;> by_cases q3 : e ≤ (hull l lo hi).2.1 <;> simp [q, q0, q1, q2, q3]
  · rfl
theorem rsl1 {l : List S60} (h0 : 0 < l.length) (hn : l.length ≤ 64) (hl : l.all okc = true) (lo hi : Int) {a b c d e f : Int} (hb : bx a b c d e f = true) {k : Nat} (hk : 200 ≤ k) : gangsawref08_Separator.l1 k (q4 a b d e) [3, 1, 0, 2] 0 l lo hi = some (if (hull l lo hi).2.2.2.1 ≤ a then 1000 else if (hull l lo hi).1 ≥ d then 1001 else if (hull l lo hi).2.2.2.2.1 ≤ b then 1002 else if (hull l lo hi).2.1 ≥ e then 1003 else -1) := by
  obtain ⟨k, rfl⟩ : ∃ q, k = q + 10 := ⟨k - 10, by omega⟩
  have hb' := bx_ok hb
  have ok := ok_pt (q4_ok hb) (show 0 < (q4 a b d e).length by simp [q4])
  have L4 : (q4 a b d e).length = 4 := rfl
  have y : ∀ (j : Nat), j < 4 → ∀ {q : Nat}, 100 ≤ q → gangsawref08_beyond.f q (q4 a b d e) (j : Int) l = some (dv (pt (q4 a b d e) j) (pt (q4 a b d e) (j + 1)) l) := fun j hj q hq => by_k (by omega) ok (by omega) hl (by omega) (by omega)
  have p0 : pt (q4 a b d e) 0 = (a, b) := rfl
  have p1 : pt (q4 a b d e) 1 = (d, b) := rfl
  have p2 : pt (q4 a b d e) 2 = (d, e) := rfl
  have p3 : pt (q4 a b d e) 3 = (a, e) := rfl
  have p4 : pt (q4 a b d e) 4 = (a, b) := by have := pt_per (q4 a b d e) 0; rw [L4] at this; exact this.trans p0
  have y3 : gangsawref08_beyond.f (k + 9) (q4 a b d e) 3 l = _ := y 3 (by omega) (by omega)
  have y1 : gangsawref08_beyond.f (k + 8) (q4 a b d e) 1 l = _ := y 1 (by omega) (by omega)
  have y0 : gangsawref08_beyond.f (k + 7) (q4 a b d e) 0 l = _ := y 0 (by omega) (by omega)
  have y2 : gangsawref08_beyond.f (k + 6) (q4 a b d e) 2 l = _ := y 2 (by omega) (by omega)
  rw [p3, p4, side3 (d := d) h0 lo hi (by omega)] at y3
  rw [p1, p2, side1 h0 lo hi (by omega)] at y1
  rw [p0, p1, side0 h0 lo hi (by omega)] at y0
  rw [p2, p3, side2 h0 lo hi (by omega)] at y2
  have w0 : wrap64 (0 + 1) = 1 := by decide +kernel
  have w1 : wrap64 (1 + 1) = 2 := by decide +kernel
  have w2 : wrap64 (2 + 1) = 3 := by decide +kernel
  have w3 : wrap64 (3 + 1) = 4 := by decide +kernel
  have v0 : wrap64 (1000 + 0) = 1000 := by decide +kernel
  have v1 : wrap64 (1000 + 1) = 1001 := by decide +kernel
  have v2 : wrap64 (1000 + 2) = 1002 := by decide +kernel
  have v3 : wrap64 (1000 + 3) = 1003 := by decide +kernel
  have r0 : rd [3, 1, 0, 2] 0 = 3 := rfl
  have r1 : rd [3, 1, 0, 2] 1 = 1 := rfl
  have r2 : rd [3, 1, 0, 2] 2 = 0 := rfl
  have r3 : rd [3, 1, 0, 2] 3 = 2 := rfl
  simp only [gangsawref08_Separator.l1, List.length_cons, List.length_nil, w0, w1, w2, w3, v0, v1, v2, v3, r0, r1, r2, r3, y0, y1, y2, y3, Option.bind_some, decide_eq_true_eq]
  by_cases q0 : (hull l lo hi).2.2.2.1 ≤ a <;> by_cases q1 : d ≤ (hull l lo hi).1 <;> by_cases q2 : (hull l lo hi).2.2.2.2.1 ≤ b <;> by_cases q3 : e ≤ (hull l lo hi).2.1 <;> simp [q0, q1, q2, q3]
theorem rsl0 {l : List S60} (h0 : 0 < l.length) (hn : l.length ≤ 64) (hl : l.all okc = true) (lo hi : Int) {a b c d e f : Int} (hb : bx a b c d e f = true) : ∀ (m i k : Nat), i + m = l.length → m + 300 ≤ k →
    gangsawref08_Separator.l0 k (q4 a b d e) (i : Int) l lo hi = some (if 0 ≤ fe l (q4 a b d e) i m then fe l (q4 a b d e) i m else if (hull l lo hi).2.2.2.1 ≤ a then 1000 else if (hull l lo hi).1 ≥ d then 1001 else if (hull l lo hi).2.2.2.2.1 ≤ b then 1002 else if (hull l lo hi).2.1 ≥ e then 1003 else -1) := by
  intro m
  induction m with
  | zero =>
    intro i k hm hk
    obtain ⟨k, rfl⟩ : ∃ q, k = q + 1 := ⟨k - 1, by omega⟩
    unfold gangsawref08_Separator.l0
    rw [if_neg (by omega), rsl1 h0 hn hl lo hi hb (by omega)]; rfl
  | succ m ih =>
    intro i k hm hk
    obtain ⟨k, rfl⟩ : ∃ q, k = q + 1 := ⟨k - 1, by omega⟩
    have ok := ok_pt hl h0
    unfold gangsawref08_Separator.l0
    rw [if_pos (by omega), by_k (by omega) ok (by omega) (q4_ok hb) (show (q4 a b d e).length < 1000 by simp [q4]) (show (q4 a b d e).length < k by simp only [q4, List.length_cons, List.length_nil]; omega), wr (by omega)]
    simp only [Option.bind_some]
    rw [fe]
    split
    · rw [if_pos (by omega)]
    · exact ih (i + 1) k (by omega) (by omega)
theorem rSeparator_k {l : List S60} (h0 : 0 < l.length) (hn : l.length ≤ 64) (hl : l.all okc = true) (lo hi : Int) {a b c d e f : Int} (hb : bx a b c d e f = true) {k : Nat} (hk : 1000 ≤ k) : gangsawref08_Separator.f k l lo hi a b c d e f = some (spt l lo hi a b d e) := by
  simp only [gangsawref08_Separator.f, gangsawref08_Of.f, Option.bind_some, show [(⟨a, b⟩ : S60), ⟨d, b⟩, ⟨d, e⟩, ⟨a, e⟩] = q4 a b d e from rfl]
  exact rsl0 h0 hn hl lo hi hb l.length 0 k (by omega) (by omega)
/-- The rectangle's own sides separate exactly if the hull lies beyond one. -/
theorem sep_q {l : List S60} (h0 : 0 < l.length) (lo hi : Int) {a b d e : Int} (hx : a < d) (hy : b < e) : sep (q4 a b d e) l < 0 ↔ ¬ (hull l lo hi).2.2.2.1 ≤ a ∧ ¬ d ≤ (hull l lo hi).1 ∧ ¬ (hull l lo hi).2.2.2.2.1 ≤ b ∧ ¬ e ≤ (hull l lo hi).2.1 := by
  have L4 : (q4 a b d e).length = 4 := rfl
  have p0 : pt (q4 a b d e) 0 = (a, b) := rfl
  have p1 : pt (q4 a b d e) 1 = (d, b) := rfl
  have p2 : pt (q4 a b d e) 2 = (d, e) := rfl
  have p3 : pt (q4 a b d e) 3 = (a, e) := rfl
  have p4 : pt (q4 a b d e) 4 = (a, b) := by have := pt_per (q4 a b d e) 0; rw [L4] at this; exact this.trans p0
  have y3 := side3 (d := d) h0 lo hi hy (a := a)
  have y1 := side1 h0 lo hi hy (d := d)
  have y0 := side0 h0 lo hi hx (b := b)
  have y2 := side2 h0 lo hi hx (e := e)
  unfold sep
  rw [fe_neg, L4]
  constructor
  · intro h
    have h0 := h 0 (by omega) (by omega)
    have h1 := h 1 (by omega) (by omega)
    have h2 := h 2 (by omega) (by omega)
    have h3 := h 3 (by omega) (by omega)
    rw [p0, p1, y0] at h0
    rw [p1, p2, y1] at h1
    rw [p2, p3, y2] at h2
    rw [p3, p4, y3] at h3
    exact ⟨of_decide_eq_false h3, of_decide_eq_false h1, of_decide_eq_false h0, of_decide_eq_false h2⟩
  · rintro ⟨h3, h1, h0, h2⟩ j _ hj
    have : j = 0 ∨ j = 1 ∨ j = 2 ∨ j = 3 := by omega
    rcases this with rfl | rfl | rfl | rfl
    · rw [p0, p1, y0]; exact decide_eq_false h0
    · rw [p1, p2, y1]; exact decide_eq_false h1
    · rw [p2, p3, y2]; exact decide_eq_false h2
    · rw [p3, p4, y3]; exact decide_eq_false h3
theorem sep_lt (l L : List S60) : sep l L = -1 ∨ 0 ≤ sep l L := by
  rcases fe_b l L l.length 0 with h | ⟨j, _, _, h, _⟩
  · exact .inl h
  · right; unfold sep; omega
theorem spt_iff {l : List S60} (h0 : 0 < l.length) (lo hi : Int) {a b d e : Int} (hx : a < d) (hy : b < e) : spt l lo hi a b d e = -1 ↔ sep l (q4 a b d e) < 0 ∧ sep (q4 a b d e) l < 0 := by
  rw [sep_q h0 lo hi hx hy]
  have := sep_lt l (q4 a b d e)
  unfold spt
  by_cases q : 0 ≤ sep l (q4 a b d e)
  · rw [if_pos q]; omega
  · rw [if_neg q]
    by_cases q0 : (hull l lo hi).2.2.2.1 ≤ a
    · rw [if_pos q0]; exact ⟨fun h => absurd h (by decide), fun h => absurd q0 h.2.1⟩
    · rw [if_neg q0]
      by_cases q1 : d ≤ (hull l lo hi).1
      · rw [if_pos q1]; exact ⟨fun h => absurd h (by decide), fun h => absurd q1 h.2.2.1⟩
      · rw [if_neg q1]
        by_cases q2 : (hull l lo hi).2.2.2.2.1 ≤ b
        · rw [if_pos q2]; exact ⟨fun h => absurd h (by decide), fun h => absurd q2 h.2.2.2.1⟩
        · rw [if_neg q2]
          by_cases q3 : e ≤ (hull l lo hi).2.1
          · rw [if_pos q3]; exact ⟨fun h => absurd h (by decide), fun h => absurd q3 h.2.2.2.2⟩
          · rw [if_neg q3]; exact ⟨fun _ => ⟨by omega, q0, q1, q2, q3⟩, fun _ => rfl⟩
theorem mt_iff {l : List S60} (h0 : 0 < l.length) (lo hi c f : Int) {a b d e : Int} (hx : a < d) (hy : b < e) : mt l lo hi (q4 a b d e) c f = true ↔ spt l lo hi a b d e = -1 ∧ c < hi ∧ lo < f := by
  rw [spt_iff h0 lo hi hx hy]
  simp only [mt, Bool.and_eq_true, decide_eq_true_eq]
  constructor
  · rintro ⟨p, q, r, s⟩; exact ⟨⟨r, s⟩, q, p⟩
  · rintro ⟨⟨r, s⟩, q, p⟩; exact ⟨p, q, r, s⟩
/-- A point on the left of all edges is not below all corners. -/
theorem low {P : Nat → Int × Int} {n : Nat} (hn : 3 ≤ n) (hp : Per P n) (g : Glob P n) {m : Int × Int} (hm : ∀ i, 0 ≤ cr3 (P i) (P (i + 1)) m) : ¬ ∀ j, m.2 < (P j).2 := fun h => by
  obtain ⟨i, _, s1, s2⟩ := sw_ex hn hp g
  have ne := glob_ne hn g i 1 (by omega) (by omega)
  have u : lt2 (P (i + 1)) (P i) := (lt2_total _ _ ne).resolve_left s1
  exact cone (g i 2 (by omega) (by omega)) (hm (i + 1)) (hm i) s2 u (.inl (h (i + 1)))
/-- A quarter turn. -/
def rt (a : Int × Int) : Int × Int := (-a.2, a.1)
theorem cr3_rt (a b c : Int × Int) : cr3 (rt a) (rt b) (rt c) = cr3 a b c := by simp only [cr3, rt]; grind
theorem per_rt {P : Nat → Int × Int} {n : Nat} (h : Per P n) : Per (fun j => rt (P j)) n := fun j => by simp only [h j]
theorem glob_rt {P : Nat → Int × Int} {n : Nat} (h : Glob P n) : Glob (fun j => rt (P j)) n := fun i j a b => by rw [cr3_rt]; exact h i j a b
theorem right {P : Nat → Int × Int} {n : Nat} (hn : 3 ≤ n) (hp : Per P n) (g : Glob P n) {m : Int × Int} (hm : ∀ i, 0 ≤ cr3 (P i) (P (i + 1)) m) : ¬ ∀ j, m.1 < (P j).1 := fun h =>
  low hn (per_rt hp) (glob_rt g) (m := rt m) (fun i => by rw [cr3_rt]; exact hm i) (fun j => h j)
theorem high {P : Nat → Int × Int} {n : Nat} (hn : 3 ≤ n) (hp : Per P n) (g : Glob P n) {m : Int × Int} (hm : ∀ i, 0 ≤ cr3 (P i) (P (i + 1)) m) : ¬ ∀ j, (P j).2 < m.2 := fun h =>
  right hn (per_rt hp) (glob_rt g) (m := rt m) (fun i => by rw [cr3_rt]; exact hm i) (fun j => by have := h j; simp only [rt]; omega)
theorem left {P : Nat → Int × Int} {n : Nat} (hn : 3 ≤ n) (hp : Per P n) (g : Glob P n) {m : Int × Int} (hm : ∀ i, 0 ≤ cr3 (P i) (P (i + 1)) m) : ¬ ∀ j, (P j).1 < m.1 := fun h =>
  high hn (per_rt hp) (glob_rt g) (m := rt m) (fun i => by rw [cr3_rt]; exact hm i) (fun j => h j)
theorem ce_all {a b : Int × Int} {L : List S60} : ce a b L = true ↔ ∀ s ∈ L, 0 ≤ cr3 a b (s.f0, s.f1) := by
  simp only [ce, List.all_eq_true, Bool.not_eq_true', decide_eq_false_iff_not, Int.not_lt]
theorem ca_all (l L : List S60) : ∀ m i, ca l L i m = true ↔ ∀ j, i ≤ j → j < i + m → ce (pt l j) (pt l (j + 1)) L = true
  | 0, i => ⟨fun _ j a b => by omega, fun _ => rfl⟩
  | m + 1, i => by
    simp only [ca, Bool.and_eq_true, ca_all l L m (i + 1)]
    constructor
    · rintro ⟨p, q⟩ j h1 h2
      by_cases h3 : j = i
      · subst h3; exact p
      · exact q j (by omega) (by omega)
    · intro h; exact ⟨h i (by omega) (by omega), fun j h1 h2 => h j (by omega) (by omega)⟩
theorem cv_all {l L : List S60} (h0 : 0 < l.length) : cv l L = true ↔ ∀ j, ∀ s ∈ L, 0 ≤ cr3 (pt l j) (pt l (j + 1)) (s.f0, s.f1) := by
  unfold cv
  rw [ca_all]
  constructor
  · intro h j s hs
    have := ce_all.1 (h (j % l.length) (Nat.zero_le _) (by have := Nat.mod_lt j h0; omega)) s hs
    rwa [pt_red, pt_mod] at this
  · intro h j _ _
    exact ce_all.2 (h j)
theorem pt_mem {l : List S60} (h0 : 0 < l.length) (j : Nat) : ∃ s ∈ l, (s.f0, s.f1) = pt l j := ⟨_, rd_mem l (j % l.length) (Nat.mod_lt _ h0), rfl⟩
theorem mul_z {D w : Int} (hD : 0 < D) (h : D * w = 0) : w = 0 := by
  rcases Int.mul_eq_zero.1 h with h | h
  · omega
  · exact h
/-- What is covered is not separated. -/
theorem cv_mt {l : List S60} (h3 : 3 ≤ l.length) (g : Glob (pt l) l.length) {lo hi a b c d e f : Int} (hx : a < d) (hy : b < e) (hz : c < f) (h : cv l (q4 a b d e) = true) (z1 : lo ≤ c) (z2 : f ≤ hi) : mt l lo hi (q4 a b d e) c f = true := by
  have h0 : 0 < l.length := by omega
  rw [cv_all h0] at h
  have m0 : ∀ j, 0 ≤ cr3 (pt l j) (pt l (j + 1)) (a, b) := fun j => h j ⟨a, b⟩ (by simp [q4])
  have m1 : ∀ j, 0 ≤ cr3 (pt l j) (pt l (j + 1)) (d, b) := fun j => h j ⟨d, b⟩ (by simp [q4])
  have m2 : ∀ j, 0 ≤ cr3 (pt l j) (pt l (j + 1)) (d, e) := fun j => h j ⟨d, e⟩ (by simp [q4])
  have m3 : ∀ j, 0 ≤ cr3 (pt l j) (pt l (j + 1)) (a, e) := fun j => h j ⟨a, e⟩ (by simp [q4])
  rw [mt_iff h0 lo hi c f hx hy, spt_iff h0 lo hi hx hy]
  refine ⟨⟨?_, ?_⟩, by omega, by omega⟩
  · unfold sep
    rw [fe_neg]
    intro j _ _
    rw [← Bool.not_eq_true]
    intro dvt
    rw [dv_all] at dvt
    have n0 := dvt ⟨a, b⟩ (by simp [q4])
    have n1 := dvt ⟨d, b⟩ (by simp [q4])
    have n3 := dvt ⟨a, e⟩ (by simp [q4])
    have k0 := m0 j
    have k1 := m1 j
    have k3 := m3 j
    have i1 : cr3 (pt l j) (pt l (j + 1)) (a, b) - cr3 (pt l j) (pt l (j + 1)) (d, b) = (d - a) * ((pt l (j + 1)).2 - (pt l j).2) := by simp only [cr3]; grind
    have i3 : cr3 (pt l j) (pt l (j + 1)) (a, e) - cr3 (pt l j) (pt l (j + 1)) (a, b) = (e - b) * ((pt l (j + 1)).1 - (pt l j).1) := by simp only [cr3]; grind
    have y1 := mul_z (show 0 < d - a by omega) (show (d - a) * ((pt l (j + 1)).2 - (pt l j).2) = 0 by rw [← i1]; simp only at n0 n1; omega)
    have y3 := mul_z (show 0 < e - b by omega) (show (e - b) * ((pt l (j + 1)).1 - (pt l j).1) = 0 by rw [← i3]; simp only at n0 n3; omega)
    exact glob_ne h3 g j 1 (by omega) (by omega) (Prod.ext (by omega) (by omega))
  · rw [sep_q h0 lo hi hx hy]
    have hp := pt_per l
    refine ⟨fun q => ?_, fun q => ?_, fun q => ?_, fun q => ?_⟩
    · rw [hull_3 h0] at q
      refine left h3 hp g m1 fun j => ?_
      obtain ⟨s, hs, e⟩ := pt_mem h0 j
      have := q s hs
      rw [← e]; simp only; omega
    · rw [hull_0 h0] at q
      refine right h3 hp g m0 fun j => ?_
      obtain ⟨s, hs, e⟩ := pt_mem h0 j
      have := q s hs
      rw [← e]; simp only; omega
    · rw [hull_4 h0] at q
      refine high h3 hp g m3 fun j => ?_
      obtain ⟨s, hs, e⟩ := pt_mem h0 j
      have := q s hs
      rw [← e]; simp only; omega
    · rw [hull_1 h0] at q
      refine low h3 hp g m0 fun j => ?_
      obtain ⟨s, hs, e⟩ := pt_mem h0 j
      have := q s hs
      rw [← e]; simp only; omega
theorem q4_len (a b d e : Int) : (q4 a b d e).length = 4 := rfl
theorem q4_pt (a b d e : Int) : pt (q4 a b d e) 0 = (a, b) ∧ pt (q4 a b d e) 1 = (d, b) ∧ pt (q4 a b d e) 2 = (d, e) ∧ pt (q4 a b d e) 3 = (a, e) ∧ pt (q4 a b d e) 4 = (a, b) ∧ pt (q4 a b d e) 5 = (d, b) ∧ pt (q4 a b d e) 6 = (d, e) := by
  have h := pt_per (q4 a b d e)
  rw [q4_len] at h
  exact ⟨rfl, rfl, rfl, rfl, h 0, h 1, h 2⟩
theorem q4_glob {a b d e : Int} (hx : a < d) (hy : b < e) : Glob (pt (q4 a b d e)) (q4 a b d e).length := fun i j h2 hj => by
  rw [q4_len] at hj
  obtain ⟨p0, p1, p2, p3, p4, p5, p6⟩ := q4_pt a b d e
  have m := Int.mul_pos (show 0 < d - a by omega) (show 0 < e - b by omega)
  have r0 := pt_red (q4 a b d e) i
  have r1 := pt_mod (q4 a b d e) i 1
  have rj := pt_mod (q4 a b d e) i j
  rw [q4_len] at r0 r1 rj
  rw [← r0, ← r1, ← rj]
  have hi : i % 4 = 0 ∨ i % 4 = 1 ∨ i % 4 = 2 ∨ i % 4 = 3 := by omega
  have hj : j = 2 ∨ j = 3 := by omega
  rcases hi with h | h | h | h <;> rw [h] <;> rcases hj with rfl | rfl <;> simp only [Nat.zero_add, Nat.reduceAdd, p0, p1, p2, p3, p4, p5, p6, cr3] <;> grind
theorem q4_chk {a b c d e f : Int} (h : bx a b c d e f = true) : chk (q4 a b d e) c f = 0 := by
  have hb := bx_ok h
  have ok := q4_ok h
  have cx : cxb (q4 a b d e) = true := (convex_iff (by rw [q4_len]; omega) (by rw [q4_len]; omega) (ok_pt ok (by rw [q4_len]; omega))).2 (q4_glob (by omega) (by omega))
  have oc : okn c = true := decide_eq_true (by omega)
  have of : okn f = true := decide_eq_true (by omega)
  unfold chk
  rw [ok, oc, of, cx, q4_len]
  simp only [Nat.reduceLT, gt_iff_lt, if_false, Bool.and_self, Bool.true_eq_false, if_true, Nat.reduceLeDiff]
  rw [if_neg (by omega)]
theorem q4_hull {a b c d e f : Int} (hx : a < d) (hy : b < e) : hull (q4 a b d e) c f = (a, b, c, d, e, f) := by
  simp only [hull, q4, hl, show rd_T60 [(⟨a, b⟩ : S60), ⟨d, b⟩, ⟨d, e⟩, ⟨a, e⟩] 0 = ⟨a, b⟩ from rfl, mn, mx]
  simp only [Prod.mk.injEq]
  refine ⟨?_, ?_, ?_, ?_, ?_, ?_⟩ <;> grind
theorem q4_area (a b d e : Int) : area (q4 a b d e) = 2 * (d - a) * (e - b) := by
  obtain ⟨p0, p1, p2, p3, p4, p5, p6⟩ := q4_pt a b d e
  simp only [area, q4_len, sx, p0, p1, p2, p3, p4, Nat.zero_add, Nat.reduceAdd, X]
  grind
theorem mul_nn {D w : Int} (hD : 0 < D) : 0 ≤ D * w ↔ 0 ≤ w := by
  constructor
  · intro h
    refine Classical.byContradiction fun p => ?_
    have := Int.mul_pos hD (show 0 < -w by omega)
    rw [Int.mul_neg] at this; omega
  · intro h
    exact Int.mul_nonneg (by omega) h
theorem q4_cv {a b d e a' b' d' e' : Int} (hx : a < d) (hy : b < e) (hx' : a' < d') (hy' : b' < e') : cv (q4 a b d e) (q4 a' b' d' e') = true ↔ a ≤ a' ∧ d' ≤ d ∧ b ≤ b' ∧ e' ≤ e := by
  obtain ⟨p0, p1, p2, p3, p4, p5, p6⟩ := q4_pt a b d e
  have i0 : ∀ x y : Int, cr3 (a, b) (d, b) (x, y) = (d - a) * (y - b) := fun x y => by simp only [cr3]; grind
  have i1 : ∀ x y : Int, cr3 (d, b) (d, e) (x, y) = (e - b) * (d - x) := fun x y => by simp only [cr3]; grind
  have i2 : ∀ x y : Int, cr3 (d, e) (a, e) (x, y) = (d - a) * (e - y) := fun x y => by simp only [cr3]; grind
  have i3 : ∀ x y : Int, cr3 (a, e) (a, b) (x, y) = (e - b) * (x - a) := fun x y => by simp only [cr3]; grind
  simp only [cv, q4_len, ca, Nat.zero_add, Nat.reduceAdd, p0, p1, p2, p3, p4, Bool.and_true, Bool.and_eq_true, ce_all]
  simp only [q4, List.mem_cons, List.not_mem_nil, or_false, forall_eq_or_imp, forall_eq, i0, i1, i2, i3, mul_nn (show 0 < d - a by omega), mul_nn (show 0 < e - b by omega)]
  omega
theorem q4_mt {a b c d e f a' b' c' d' e' f' : Int} (hx : a < d) (hy : b < e) (hx' : a' < d') (hy' : b' < e') : mt (q4 a b d e) c f (q4 a' b' d' e') c' f' = true ↔ (a < d' ∧ a' < d ∧ b < e' ∧ b' < e) ∧ c < f' ∧ c' < f := by
  rw [mt_iff (by rw [q4_len]; omega) c f c' f' hx' hy', spt_iff (by rw [q4_len]; omega) c f hx' hy', sep_q (l := q4 a b d e) (by rw [q4_len]; omega) c f hx' hy', sep_q (l := q4 a' b' d' e') (by rw [q4_len]; omega) c' f' hx hy, q4_hull hx hy, q4_hull hx' hy']
  simp only
  omega
end Go.Proofs.Ythogemdknlpnpaa.Pure
