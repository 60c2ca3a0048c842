import Derived.Test.YtejnelflfldfgaaXAx7
import Derived.Test.YtejnelflfldfgaaMe
namespace Go.Proofs.Ytejnelflfldfgaa.XA
set_option linter.unusedVariables false
set_option linter.unusedSimpArgs false
open Go.RowKit Go.Proofs.Ytejnelflfldfgaa.Opens Go.Proofs.YtejnelflfldfgaaW.PrintWords Go.Proofs.YtejnelflfldfgaaW.PrintLast Go.Proofs.YtejnelflfldfgaaW.PrintMore
theorem rmirror0 (xs : List Int) (hl : xs.length ≤ 1000) : ∀ (m : Nat) (acc : List Int) (k : Nat), m ≤ xs.length → acc.length + m = xs.length → m < k →
    gangsawref35_Mirror.l0 k xs acc ((m : Int) - 1) = some (acc ++ (xs.take m).reverse) := by
  intro m
  induction m with
  | zero =>
    intro acc k h0 hm hk
    obtain ⟨k, rfl⟩ : ∃ q, k = q + 1 := ⟨k - 1, by omega⟩
    simp only [gangsawref35_Mirror.l0]
    rw [if_neg (by omega)]
    simp
  | succ m ih =>
    intro acc k h0 hm hk
    obtain ⟨k, rfl⟩ : ∃ q, k = q + 1 := ⟨k - 1, by omega⟩
    simp only [gangsawref35_Mirror.l0]
    rw [show ((m + 1 : Nat) : Int) - 1 = m by omega]
    obtain ⟨h, e⟩ := rd_at (xs := xs) (i := m) (by omega) (by omega)
    have h' : m < xs.length := by omega
    rw [if_pos (by omega), if_pos (by omega), if_pos (by omega), if_pos (by omega), wr (by omega), ih _ k (by omega) (by simp; omega) (by omega), e]
    have e2 : xs.take (m + 1) = xs.take m ++ [xs[m]] := List.take_succ_eq_append_getElem h'
    rw [e2, List.reverse_append, List.append_assoc]
    rfl
theorem rMirror_k (xs : List Int) (hl : xs.length ≤ 1000) {k : Nat} (hk : 1100 ≤ k) : gangsawref35_Mirror.f k xs = some xs.reverse := by
  unfold gangsawref35_Mirror.f
  rw [wr (by omega), rmirror0 xs hl xs.length [] k (by omega) (by simp) (by omega), List.take_length, List.nil_append]
theorem rsmooth1 {xs acc : List Int} {i : Int} (hi0 : 0 ≤ i) (hi1 : i < xs.length) (hl : xs.length ≤ 64) (ho : okB xs = true) (ha : acc.length < 17592186044416) :
    ∀ (m : Nat) (p s n : Int) (k : Nat), 0 ≤ p → p + m = hi xs i → 0 ≤ s → s ≤ 1000 * n → 0 ≤ n → 1 ≤ n + m → n + m ≤ 3 →
    gangsawref35_Smooth.l1 (m + 1 + k) xs acc i s n p = gangsawref35_Smooth.l0 k xs (acc ++ [Int.tdiv (2 * (s + (seg xs p (hi xs i)).sum) + (n + m)) (2 * (n + m))]) (i + 1) := by
  have e : hi xs i = if i + 2 ≤ xs.length then i + 2 else xs.length := by unfold hi mn; split <;> split <;> omega
  intro m
  induction m with
  | zero =>
    intro p s n k h0 hm hs0 hs hn h1 h3
    rw [show 0 + 1 + k = k + 1 by omega]
    simp only [gangsawref35_Smooth.l1]
    have fin : (if (wrap64 (2 * n)) = 0 then (none) else (if acc.length < 17592186044416 then (gangsawref35_Smooth.l0 k xs (acc ++ [wrap64 (Int.tdiv (wrap64 ((wrap64 (2 * s)) + n)) (wrap64 (2 * n)))]) (wrap64 (i + 1))) else (none))) = gangsawref35_Smooth.l0 k xs (acc ++ [Int.tdiv (2 * (s + (seg xs p (hi xs i)).sum) + (n + (0 : Nat))) (2 * (n + (0 : Nat)))]) (i + 1) := by
      rw [wr (x := 2 * n) (by omega), if_neg (by omega), if_pos ha, wr (x := 2 * s) (by omega), wr (x := 2 * s + n) (by omega), wr (x := i + 1) (by omega)]
      have := tdiv_bd (x := 2 * s + n) (y := 2 * n) (by omega) (by omega)
      rw [wr (by omega), seg_nil (by omega)]
      simp
    rw [fin, wr (x := i + 1) (by omega)]
    by_cases q : p ≤ i + 1
    · rw [if_pos q, if_neg (by split at e <;> omega)]
    · rw [if_neg q]
  | succ m ih =>
    intro p s n k h0 hm hs0 hs hn h1 h3
    rw [show m + 1 + 1 + k = (m + 1 + k) + 1 by omega]
    simp only [gangsawref35_Smooth.l1]
    have hh : hi xs i ≤ xs.length ∧ hi xs i ≤ i + 2 := by split at e <;> omega
    have r := okB_rd ho h0 (by omega : p < xs.length)
    rw [wr (x := i + 1) (by omega), if_pos (by omega), if_pos (by omega), if_pos h0, wr (x := s + _) (by omega), wr (x := n + 1) (by omega), wr (x := p + 1) (by omega),
      ih (p + 1) _ _ k (by omega) (by omega) (by omega) (by omega) (by omega) (by omega) (by omega), seg_cons (xs := xs) (s := p) h0 (by omega) hh.1]
    rw [List.sum_cons, Int.add_assoc s, show n + 1 + (m : Int) = n + ((m + 1 : Nat) : Int) by omega]
theorem rsmooth0 {xs : List Int} (hx : XA.Good xs) : ∀ (m : Nat) (i : Int) (acc : List Int) (k : Nat), 0 ≤ i → i + m = xs.length → acc.length = i.toNat → 5 * m < k →
    gangsawref35_Smooth.l0 k xs acc i = some (acc ++ smL xs m i) := by
  have h64 := hx.hi
  intro m
  induction m with
  | zero =>
    intro i acc k h0 hm _ hk
    obtain ⟨k, rfl⟩ : ∃ q, k = q + 1 := ⟨k - 1, by omega⟩
    simp only [gangsawref35_Smooth.l0]
    rw [if_neg (by omega)]
    simp [smL]
  | succ m ih =>
    intro i acc k h0 hm ha hk
    obtain ⟨w1, w2⟩ := win (xs := xs) (i := i) h0 (by omega)
    have w3 := wn_bd xs i
    have el : mx 0 (wrap64 (i - 1)) = lo i := by rw [wr (by omega)]; rfl
    have l0 : 0 ≤ lo i := by unfold lo mx; split <;> omega
    have l1 : lo i ≤ hi xs i := by unfold lo hi mx mn; split <;> split <;> omega
    have l3 : hi xs i - lo i = wn xs i := by unfold lo hi mx mn wn; split <;> split <;> split <;> split <;> omega
    obtain ⟨q, hq⟩ : ∃ q : Nat, (q : Int) = wn xs i := ⟨(wn xs i).toNat, by omega⟩
    obtain ⟨k, rfl⟩ : ∃ z, k = q + 1 + z + 1 := ⟨k - 2 - q, by omega⟩
    simp only [gangsawref35_Smooth.l0]
    rw [if_pos (by omega), el, rsmooth1 h0 (by omega) h64 hx.ok (by omega) q (lo i) 0 0 k l0 (by omega) (by omega) (by omega) (by omega) (by omega) (by omega), w1, ih (i + 1) _ k (by omega) (by omega) (by simp; omega) (by omega), hq]
    simp only [smL, sm, Int.zero_add, List.append_assoc, List.singleton_append]
theorem rSmooth_k {xs : List Int} (hx : XA.Good xs) {k : Nat} (hk : 400 ≤ k) : gangsawref35_Smooth.f k xs = some (smo xs) := by
  have := hx.hi
  unfold gangsawref35_Smooth.f
  rw [rsmooth0 hx xs.length 0 [] k (by omega) (by omega) rfl (by omega)]
  rfl
end Go.Proofs.Ytejnelflfldfgaa.XA
