import Derived.Test.YthogemdknlpnpaaXAx0
import Derived.Test.YthogemdknlpnpaaXAx7
import Derived.Test.YthogemdknlpnpaaXAx19
import Derived.Test.YthogemdknlpnpaaXAx20
import Derived.Test.YthogemdknlpnpaaXAx23
import Derived.Test.YthogemdknlpnpaaXAx24
import Derived.Test.YthogemdknlpnpaaHa
import Derived.Test.YthogemdknlpnpaaHd
import Derived.Test.YthogemdknlpnpaaMk
namespace Go.Proofs.Ythogemdknlpnpaa.Pure
open Go.RowKit Go.Proofs.Ythogemdknlpnpaa.Opens Go.Proofs.Ythogemdknlpnpaa.XA Go.Proofs.YthogemdknlpnpaaW.PrintWords Go.Proofs.YthogemdknlpnpaaW.PrintLast Go.Proofs.Ythogemdknlpnpaa.Geo
set_option linter.unusedVariables false
set_option linter.unusedSimpArgs false
theorem awake_200 : gangsawlaw08_awake.f 200 = some true := by decide +kernel
theorem aw {k : Nat} (h : 200 ≤ k) : gangsawlaw08_awake.f k = some true := at_rounds (g := gangsawlaw08_awake.f) (fun k => gangsawlaw08_awake.mono k) h awake_200
/-- The hull so far, and the corners that are left. -/
def hl : List S60 → Int × Int × Int × Int × Int × Int → Int × Int × Int × Int × Int × Int
  | [], h => h
  | s :: l, (a, b, c, d, e, f) => hl l (mn a s.f0, mn b s.f1, c, mx d s.f0, mx e s.f1, f)
def hull (l : List S60) (lo hi : Int) : Int × Int × Int × Int × Int × Int := hl l ((rd_T60 l 0).f0, (rd_T60 l 0).f1, lo, (rd_T60 l 0).f0, (rd_T60 l 0).f1, hi)
theorem phl (l : List S60) (hn : l.length < 1000) : ∀ (m i k : Nat) (a b c d e f : Int), i + m = l.length → m < k →
    prism_hull.l0 k l (l.length : Int) (i : Int) a b c d e f = some (hl (l.drop i) (a, b, c, d, e, f)) := by
  intro m
  induction m with
  | zero =>
    intro i k a b c d e f hm hk
    obtain ⟨k, rfl⟩ : ∃ q, k = q + 1 := ⟨k - 1, by omega⟩
    unfold prism_hull.l0
    rw [if_neg (by omega), List.drop_eq_nil_of_le (by omega)]; rfl
  | succ m ih =>
    intro i k a b c d e f hm hk
    obtain ⟨k, rfl⟩ : ∃ q, k = q + 1 := ⟨k - 1, by omega⟩
    unfold prism_hull.l0
    rw [if_pos (by omega), if_pos (by omega), if_pos (by omega), drop_rd l i (by omega), wr (by omega)]
    exact ih (i + 1) k _ _ _ _ _ _ (by omega) (by omega)
theorem rhl (l : List S60) (hn : l.length < 1000) (lo hi : Int) : ∀ (m i k : Nat) (a b c d e f : Int), i + m = l.length → m < k →
    gangsawref08_Hull.l0 k (i : Int) l lo hi a b c d e f = some (hl (l.drop i) (a, b, c, d, e, f)) := by
  intro m
  induction m with
  | zero =>
    intro i k a b c d e f hm hk
    obtain ⟨k, rfl⟩ : ∃ q, k = q + 1 := ⟨k - 1, by omega⟩
    unfold gangsawref08_Hull.l0
    rw [if_neg (by omega), List.drop_eq_nil_of_le (by omega)]; rfl
  | succ m ih =>
    intro i k a b c d e f hm hk
    obtain ⟨k, rfl⟩ : ∃ q, k = q + 1 := ⟨k - 1, by omega⟩
    unfold gangsawref08_Hull.l0
    rw [if_pos (by omega), if_pos (by omega), drop_rd l i (by omega), wr (by omega)]
    exact ih (i + 1) k _ _ _ _ _ _ (by omega) (by omega)
theorem hull_k {l : List S60} (h0 : 0 < l.length) (hn : l.length ≤ 64) (lo hi : Int) {k : Nat} (hk : 100 ≤ k) : prism_hull.f k l lo hi = some (hull l lo hi) := by
  unfold prism_hull.f hull
  rw [if_pos (by omega)]
  exact phl l (by omega) l.length 0 k _ _ _ _ _ _ (by omega) (by omega)
theorem rhull_k {l : List S60} (h0 : 0 < l.length) (hn : l.length ≤ 64) (lo hi : Int) {k : Nat} (hk : 100 ≤ k) : gangsawref08_Hull.f k l lo hi = some (hull l lo hi) := by
  unfold gangsawref08_Hull.f hull
  rw [if_pos (by omega)]
  exact rhl l (by omega) lo hi l.length 0 k _ _ _ _ _ _ (by omega) (by omega)
/-- The sum of the crosses of m edges from k on. -/
def sx (P : Nat → Int × Int) : Nat → Nat → Int
  | _, 0 => 0
  | k, m + 1 => X (P k) (P (k + 1)) + sx P (k + 1) m
/-- The sum of m triangles with P 0 from k on. -/
def tx (P : Nat → Int × Int) : Nat → Nat → Int
  | _, 0 => 0
  | k, m + 1 => cr3 (P 0) (P k) (P (k + 1)) + tx P (k + 1) m
theorem X_b {a b : Int × Int} (ha : Okp a) (hb : Okp b) : -2000000000000 ≤ X a b ∧ X a b ≤ 2000000000000 := by
  have m1 := mulb (B := 1000000) ha.1 hb.2
  have m2 := mulb (B := 1000000) ha.2 hb.1
  unfold X; omega
theorem cr3_b {a b c : Int × Int} (ha : Okp a) (hb : Okp b) (hc : Okp c) : -8000000000000 ≤ cr3 a b c ∧ cr3 a b c ≤ 8000000000000 := by
  obtain ⟨⟨a1, a2⟩, a3, a4⟩ := ha
  obtain ⟨⟨b1, b2⟩, b3, b4⟩ := hb
  obtain ⟨⟨c1, c2⟩, c3, c4⟩ := hc
  have m1 := mulb (B := 2000000) (x := b.1 - a.1) (y := c.2 - a.2) (by omega) (by omega)
  have m2 := mulb (B := 2000000) (x := b.2 - a.2) (y := c.1 - a.1) (by omega) (by omega)
  unfold cr3; omega
theorem cr3_X (a b c : Int × Int) : cr3 a b c = X a b + X b c - X a c := by simp only [cr3, X]; grind
theorem sx_snoc (P : Nat → Int × Int) : ∀ m k, sx P k (m + 1) = sx P k m + X (P (k + m)) (P (k + m + 1))
  | 0, k => by simp [sx]
  | m + 1, k => by
    have := sx_snoc P m (k + 1)
    rw [show sx P k (m + 1 + 1) = X (P k) (P (k + 1)) + sx P (k + 1) (m + 1) from rfl, this, show sx P k (m + 1) = X (P k) (P (k + 1)) + sx P (k + 1) m from rfl, show k + 1 + m = k + (m + 1) by omega]
    omega
theorem tx_sx (P : Nat → Int × Int) : ∀ m k, tx P k m = X (P 0) (P k) + sx P k m - X (P 0) (P (k + m))
  | 0, k => by simp [tx, sx]
  | m + 1, k => by
    have := tx_sx P m (k + 1)
    simp only [tx, sx, this, cr3_X, show k + 1 + m = k + (m + 1) by omega]
    omega
theorem area_eq {P : Nat → Int × Int} {n : Nat} (hn : 3 ≤ n) (hp : Per P n) : sx P 0 n = tx P 1 (n - 2) := by
  obtain ⟨m, rfl⟩ : ∃ m, n = m + 2 := ⟨n - 2, by omega⟩
  have h0 := hp 0
  rw [Nat.zero_add] at h0
  rw [sx_snoc, show sx P 0 (m + 1) = X (P 0) (P 1) + sx P 1 m from rfl, show m + 2 - 2 = m by omega, tx_sx, show 0 + (m + 1) + 1 = m + 2 by omega, h0, show 0 + (m + 1) = m + 1 by omega, show 1 + m = m + 1 by omega, X_anti (P 0) (P (m + 1))]
  omega
theorem ar_k {l : List S60} (hn : l.length ≤ 64) (ok : ∀ j, Okp (pt l j)) : ∀ (m k : Nat) (t : Int), k + m = l.length → -2000000000000 * (k : Int) ≤ t → t ≤ 2000000000000 * (k : Int) →
    ar ((List.range' k m).map (edge_at l)) t = t + sx (pt l) k m
  | 0, k, t, h, h0, h1 => by simp [ar, sx]
  | m + 1, k, t, h, h0, h1 => by
    simp only [List.range'_succ, List.map_cons, ar]
    have e1 := edge_1 (l := l) (j := k) (by omega)
    have e2 := edge_2 (l := l) (j := k) (by omega)
    have b := X_b (ok k) (ok (k + 1))
    have m1 := mulb (B := 1000000) (ok k).1 (ok (k + 1)).2
    have m2 := mulb (B := 1000000) (ok k).2 (ok (k + 1)).1
    rw [show (edge_at l k).2.1.f0 = (pt l k).1 by rw [← e1], show (edge_at l k).2.1.f1 = (pt l k).2 by rw [← e1], show (edge_at l k).2.2.f0 = (pt l (k + 1)).1 by rw [← e2], show (edge_at l k).2.2.f1 = (pt l (k + 1)).2 by rw [← e2]]
    rw [Int.mul_comm (pt l (k + 1)).1 (pt l k).2, wr (x := (pt l k).1 * (pt l (k + 1)).2) (by omega), wr (x := (pt l k).2 * (pt l (k + 1)).1) (by omega), show (pt l k).1 * (pt l (k + 1)).2 - (pt l k).2 * (pt l (k + 1)).1 = X (pt l k) (pt l (k + 1)) from rfl, wr (x := X _ _) (by omega), wr (by omega)]
    rw [ar_k hn ok m (k + 1) _ (by omega) (by omega) (by omega)]
    simp only [sx]; omega
/-- Twice the area. -/
def area (l : List S60) : Int := sx (pt l) 0 l.length
theorem area_k {l : List S60} (h0 : 0 < l.length) (hn : l.length ≤ 64) (ok : ∀ j, Okp (pt l j)) : ar (edge_upto l l.length) 0 = area l := by
  have e : edge_upto l l.length = (List.range' 0 l.length).map (edge_at l) := by simp only [edge_upto, List.range_eq_range']
  rw [e, ar_k hn ok l.length 0 0 (by omega) (by omega) (by omega), Int.zero_add, area]
theorem Area2_k (l : List S60) (lo hi : Int) {k : Nat} (hk : 6000 ≤ k) (hl0 : chk l lo hi = 0 → 0 < l.length ∧ l.length ≤ 64 ∧ ∀ j, Okp (pt l j)) : prism_Area2.f k l lo hi = some (if chk l lo hi = 0 then (area l, 0) else (0, chk l lo hi)) := by
  unfold prism_Area2.f
  rw [check_k l lo hi (by omega)]
  simp only [Option.bind_some]
  split
  · rename_i q
    obtain ⟨a, b, c⟩ := hl0 q
    rw [if_pos ⟨a, by omega⟩, area_k a b c]
  · rfl
theorem rar {l : List S60} (hn : l.length ≤ 64) (ok : ∀ j, Okp (pt l j)) (lo hi : Int) : ∀ (m i k : Nat) (t : Int), i + m + 1 = l.length → 1 ≤ i → m < k → -8000000000000 * (i : Int) ≤ t → t ≤ 8000000000000 * (i : Int) →
    gangsawref08_Area2.l0 k t (i : Int) l lo hi = some (t + tx (pt l) i m) := by
  intro m
  induction m with
  | zero =>
    intro i k t hm hi1 hk h0 h1
    obtain ⟨k, rfl⟩ : ∃ q, k = q + 1 := ⟨k - 1, by omega⟩
    unfold gangsawref08_Area2.l0
    rw [wr (x := (i : Int) + 1) (by omega), if_neg (by omega)]; simp [tx]
  | succ m ih =>
    intro i k t hm hi1 hk h0 h1
    obtain ⟨k, rfl⟩ : ∃ q, k = q + 1 := ⟨k - 1, by omega⟩
    have e0 := pt_rd (l := l) (j := 0) (by omega)
    have e1 := pt_rd (l := l) (j := i) (by omega)
    have e2 := pt_rd (l := l) (j := i + 1) (by omega)
    have c := rcross_f (ok 0) (ok i) (ok (i + 1))
    have b := cr3_b (ok 0) (ok i) (ok (i + 1))
    have c' : gangsawref08_Cross.f (rd_T60 l 0).f0 (rd_T60 l 0).f1 (rd_T60 l (i : Int)).f0 (rd_T60 l (i : Int)).f1 (rd_T60 l ((i + 1 : Nat) : Int)).f0 (rd_T60 l ((i + 1 : Nat) : Int)).f1 = some (cr3 (pt l 0) (pt l i) (pt l (i + 1))) := by
      rw [← c, e0, e1, e2]; rfl
    unfold gangsawref08_Area2.l0
    rw [wr (x := (i : Int) + 1) (by omega), if_pos (by omega), if_pos (by omega), if_pos (by omega), if_pos (by omega), if_pos (by omega), show (i : Int) + 1 = ((i + 1 : Nat) : Int) by omega, c']
    simp only [Option.bind_some]
    rw [wr (by omega), ih (i + 1) k _ (by omega) (by omega) (by omega) (by omega) (by omega)]
    simp only [tx]
    congr 1; omega
theorem rarea_k {l : List S60} (h3 : 3 ≤ l.length) (hn : l.length ≤ 64) (ok : ∀ j, Okp (pt l j)) (lo hi : Int) {k : Nat} (hk : 100 ≤ k) : gangsawref08_Area2.f k l lo hi = some (area l) := by
  unfold gangsawref08_Area2.f
  have := rar hn ok lo hi (l.length - 2) 1 k 0 (by omega) (by omega) (by omega) (by omega) (by omega)
  rw [show ((1 : Nat) : Int) = 1 from rfl] at this
  rw [this, Int.zero_add, ← area_eq h3 (pt_per l)]; rfl
/-- What a valid prism is. -/
theorem chk_ok {l : List S60} {lo hi : Int} (h : chk l lo hi = 0) : (3 ≤ l.length ∧ l.length ≤ 64) ∧ (∀ j, Okp (pt l j)) ∧ ((-1000000 ≤ lo ∧ lo ≤ 1000000) ∧ -1000000 ≤ hi ∧ hi ≤ 1000000) ∧ lo < hi ∧ Glob (pt l) l.length := by
  unfold chk at h
  split at h
  · omega
  split at h
  · omega
  split at h
  · omega
  rename_i a b c
  rw [Bool.not_eq_false, Bool.and_eq_true, Bool.and_eq_true] at c
  split at h
  · omega
  split at h
  · rename_i d e
    have ok := ok_pt c.1 (show 0 < l.length by omega)
    refine ⟨by omega, ok, ?_, by omega, (convex_iff (by omega) (by omega) ok).1 e⟩
    have := c.2
    simp only [okn, decide_eq_true_eq] at this
    exact this
  · omega
end Go.Proofs.Ythogemdknlpnpaa.Pure
