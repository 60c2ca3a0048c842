import Derived.Test.YthogemdknlpnpaaXAx0
import Derived.Test.YthogemdknlpnpaaXAx6
import Derived.Test.YthogemdknlpnpaaXAx21
import Derived.Test.YthogemdknlpnpaaXAx22
import Derived.Test.YthogemdknlpnpaaHa
import Derived.Test.YthogemdknlpnpaaHb
import Derived.Test.YthogemdknlpnpaaMj
import Derived.Test.YthogemdknlpnpaaMf
namespace Go.Proofs.Ythogemdknlpnpaa.Pure
open Go.RowKit Go.Proofs.Ythogemdknlpnpaa.Opens Go.Proofs.Ythogemdknlpnpaa.XA Go.Proofs.YthogemdknlpnpaaW.PrintWords Go.Proofs.YthogemdknlpnpaaW.PrintLast Go.Proofs.Ythogemdknlpnpaa.Geo
set_option linter.unusedVariables false
set_option linter.unusedSimpArgs false
theorem drop_rd (l : List S60) (i : Nat) (h : i < l.length) : l.drop i = rd_T60 l i :: l.drop (i + 1) := by
  rw [List.drop_eq_getElem_cons h]
  congr 1
  simp [rd_T60, List.getD_eq_getElem?_getD, List.getElem?_eq_getElem h]
theorem rd_mem (l : List S60) (i : Nat) (h : i < l.length) : rd_T60 l i ∈ l := by
  have : rd_T60 l i = l[i] := by simp [rd_T60, List.getD_eq_getElem?_getD, List.getElem?_eq_getElem h]
  rw [this]; exact List.getElem_mem h
/-- A corner is within the range. -/
def okc (s : S60) : Bool := okn s.f0 && okn s.f1
theorem okc_p {s : S60} (h : okc s = true) : Okp (s.f0, s.f1) := by
  simp only [okc, okn, Bool.and_eq_true, decide_eq_true_eq] at h; exact h
theorem ok_pt {l : List S60} (h : l.all okc = true) (h0 : 0 < l.length) : ∀ j, Okp (pt l j) := fun j =>
  okc_p (List.all_eq_true.1 h _ (rd_mem l (j % l.length) (Nat.mod_lt _ h0)))
/-- The base turns to the left at each corner, one full turn together. -/
def cxb (l : List S60) : Bool := cvx l (edge_upto l l.length) 0
/-- The first error. -/
def chk (l : List S60) (lo hi : Int) : Int := if l.length > 64 then 7 else if l.length < 3 then 1 else if (l.all okc && (okn lo && okn hi)) = false then 6 else if lo ≥ hi then 1 else if cxb l = true then 0 else 1
theorem pconvex {l : List S60} (h0 : 0 < l.length) (hn : l.length < 1000) : prism_convex.f l = some (cxb l) := by
  unfold prism_convex.f cxb; rw [if_pos ⟨h0, hn⟩]
theorem pck (l : List S60) (h3 : 0 < l.length) (hn : l.length < 1000) (lo hi : Int) : ∀ (m i k : Nat), i + m = l.length → m < k →
    prism_Check.l0 k l (l.length : Int) (i : Int) l lo hi = some (if (l.drop i).all okc = false then 6 else if lo ≥ hi then 1 else if cxb l = true then 0 else 1) := by
  intro m
  induction m with
  | zero =>
    intro i k hm hk
    obtain ⟨k, rfl⟩ : ∃ q, k = q + 1 := ⟨k - 1, by omega⟩
    unfold prism_Check.l0
    rw [if_neg (by omega), pconvex h3 hn, List.drop_eq_nil_of_le (by omega)]
    simp only [Option.bind_some, List.all_nil, Bool.true_eq_false, if_false]
    split
    · rfl
    · split <;> rfl
  | succ m ih =>
    intro i k hm hk
    obtain ⟨k, rfl⟩ : ∃ q, k = q + 1 := ⟨k - 1, by omega⟩
    unfold prism_Check.l0
    rw [if_pos (by omega), if_pos (by omega), if_pos (by omega), far_f, far_f, drop_rd l i (by omega), List.all_cons, wr (by omega)]
    have := ih (i + 1) k (by omega) (by omega)
    simp only [Option.bind_some, okc]
    by_cases a : okn (rd_T60 l i).f0 = true
    · by_cases b : okn (rd_T60 l i).f1 = true
      · simp only [a, b, Bool.not_true, Bool.false_eq_true, if_false, Bool.true_and]
        exact this
      · simp [a, b]
    · simp [a]
theorem check_k (l : List S60) (lo hi : Int) {k : Nat} (hk : 100 ≤ k) : prism_Check.f k l lo hi = some (chk l lo hi) := by
  unfold prism_Check.f chk
  by_cases h1 : l.length > 64
  · rw [if_pos (by omega), if_pos h1]
  · rw [if_neg (by omega), if_neg h1]
    by_cases h2 : l.length < 3
    · rw [if_pos (by omega), if_pos h2]
    · rw [if_neg (by omega), if_neg h2, far_f, far_f]
      have := pck l (by omega) (by omega) lo hi l.length 0 k (by omega) (by omega)
      simp only [Int.natCast_zero, List.drop_zero] at this
      simp only [Option.bind_some, this]
      cases okn lo <;> cases okn hi <;> cases l.all okc <;> simp
theorem rconvex_k {l : List S60} (h3 : 3 ≤ l.length) (hn : l.length ≤ 64) (ok : ∀ j, Okp (pt l j)) {k : Nat} (hk : 5000 ≤ k) : gangsawref08_convex.f k l = some (cxb l) := by
  have hb : l.length * (l.length + 2) ≤ 64 * 66 := Nat.mul_le_mul hn (by omega)
  obtain ⟨q, rfl⟩ : ∃ q, k = l.length * (l.length + 2) + 1 + q := ⟨k - (l.length * (l.length + 2) + 1), by omega⟩
  have r := rc0 (by omega) (by omega) ok l.length q 0 (by omega)
  unfold gangsawref08_convex.f
  by_cases c : cxb l = true
  · rw [c]
    exact r.1 ((glob_iff h3).2 ((convex_iff h3 (by omega) ok).1 c))
  · rw [Bool.not_eq_true] at c
    rw [c]
    refine r.2 (Classical.byContradiction fun n => ?_)
    have : cxb l = true := (convex_iff h3 (by omega) ok).2 ((glob_iff h3).1 fun e h0 he m hm h1 h2 => Int.not_le.1 fun p => n ⟨e, h0, he, m, hm, h1, h2, p⟩)
    rw [c] at this; exact absurd this (by decide)
theorem rck (l : List S60) (hn : l.length < 1000) (lo hi : Int) (q : Nat) : ∀ (m i : Nat), i + m = l.length →
    gangsawref08_Check.l0 (m + 1 + q) (i : Int) l lo hi = if (l.drop i).all okc = false then some 6 else gangsawref08_Check.j1 q (!(okn lo && okn hi)) l lo hi := by
  intro m
  induction m with
  | zero =>
    intro i hm
    rw [show 0 + 1 + q = q + 1 by omega]
    unfold gangsawref08_Check.l0
    rw [if_neg (by omega), List.drop_eq_nil_of_le (by omega), near_f, near_f]
    simp only [Option.bind_some, List.all_nil, Bool.true_eq_false, if_false]
    cases okn lo <;> simp
  | succ m ih =>
    intro i hm
    rw [show m + 1 + 1 + q = (m + 1 + q) + 1 by omega]
    unfold gangsawref08_Check.l0
    rw [if_pos (by omega), if_pos (by omega), near_f, near_f, drop_rd l i (by omega), List.all_cons, wr (by omega)]
    have := ih (i + 1) (by omega)
    simp only [Option.bind_some, okc]
    by_cases a : okn (rd_T60 l i).f0 = true
    · by_cases b : okn (rd_T60 l i).f1 = true
      · simp only [a, b, if_true, Bool.true_and]
        exact this
      · simp [a, b]
    · simp [a]
theorem rcheck_k (l : List S60) (lo hi : Int) {k : Nat} (hk : 6000 ≤ k) : gangsawref08_Check.f k l lo hi = some (chk l lo hi) := by
  unfold gangsawref08_Check.f chk
  by_cases h1 : l.length > 64
  · rw [if_pos (by omega), if_pos h1]
  · rw [if_neg (by omega), if_neg h1]
    by_cases h2 : l.length < 3
    · rw [if_pos (by omega), if_pos h2]
    · rw [if_neg (by omega), if_neg h2]
      obtain ⟨q, rfl⟩ : ∃ q, k = l.length + 1 + (q + 1) := ⟨k - l.length - 2, by omega⟩
      have := rck l (by omega) lo hi (q + 1) l.length 0 (by omega)
      simp only [Int.natCast_zero, List.drop_zero] at this
      rw [this]
      by_cases a : l.all okc = true
      · have c := rconvex_k (l := l) (k := q) (by omega) (by omega) (ok_pt a (by omega)) (by omega)
        simp only [gangsawref08_Check.j1, c, Option.bind_some]
        cases okn lo <;> cases okn hi <;> simp [a] <;> split <;> (try split) <;> simp_all
      · simp [a]
end Go.Proofs.Ythogemdknlpnpaa.Pure
