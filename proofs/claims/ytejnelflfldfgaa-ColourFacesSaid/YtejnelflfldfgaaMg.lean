/- What the law of the faces needs of the chapter's lemmas (Mc, Me, Mf). -/
import Derived.Test.YtejnelflfldfgaaXAx4
import Derived.Test.YtejnelflfldfgaaXAx7
import Derived.Test.YtejnelflfldfgaaXAx9
import Derived.Test.YtejnelflfldfgaaXAx12
import Derived.Test.YtejnelflfldfgaaXAx18
import Derived.Test.YtejnelflfldfgaaXAx19
import Derived.Test.YtejnelflfldfgaaXAx20
import Derived.Test.YtejnelflfldfgaaXAx22
import Derived.Test.YtejnelflfldfgaaXAx23
import Derived.Test.YtejnelflfldfgaaMb
namespace Go.Proofs.Ytejnelflfldfgaa.XA
set_option linter.unusedVariables false
set_option linter.unusedSimpArgs false
open Go.RowKit Go.Proofs.Ytejnelflfldfgaa.Opens Go.Proofs.YtejnelflfldfgaaW.PrintWords Go.Proofs.YtejnelflfldfgaaW.PrintLast Go.Proofs.YtejnelflfldfgaaW.PrintMore
theorem drop_rd {xs : List Int} {i : Int} (h0 : 0 ≤ i) (h1 : i < xs.length) : xs.drop i.toNat = rd xs i :: xs.drop (i + 1).toNat := by
  obtain ⟨h, e⟩ := rd_at h0 h1
  rw [e, show (i + 1).toNat = i.toNat + 1 by omega]
  exact List.drop_eq_getElem_cons h
theorem drop_end {xs : List Int} {i : Int} (h1 : xs.length ≤ i) : xs.drop i.toNat = [] := List.drop_eq_nil_of_le (by omega)
theorem mo_cons (a : List Int) (b y : Int) (ys : List Int) (i s n : Int) : mo a b (y :: ys) i s n = if 0 ≤ i + b ∧ i + b < a.length then mo a b ys (i + 1) (s + ab (rd a (i + b)) y) (n + 1) else mo a b ys (i + 1) s n := rfl
theorem rcheck0 (xs : List Int) (hl : xs.length ≤ 64) : ∀ (m : Nat) (i : Int) (k : Nat), 0 ≤ i → i + m = xs.length → m < k →
    gangsawref35_Check.l0 k xs i = some (if okB (xs.drop i.toNat) = true then 0 else 6) := by
  intro m
  induction m with
  | zero =>
    intro i k h0 hm hk
    obtain ⟨k, rfl⟩ : ∃ q, k = q + 1 := ⟨k - 1, by omega⟩
    simp only [gangsawref35_Check.l0]
    rw [if_neg (by omega), drop_end (by omega)]
    rfl
  | succ m ih =>
    intro i k h0 hm hk
    obtain ⟨k, rfl⟩ : ∃ q, k = q + 1 := ⟨k - 1, by omega⟩
    simp only [gangsawref35_Check.l0]
    rw [if_pos (by omega), if_pos h0, drop_rd h0 (by omega), wr (by omega)]
    have e : okB (rd xs i :: xs.drop (i + 1).toNat) = (decide (0 ≤ rd xs i ∧ rd xs i ≤ 1000) && okB (xs.drop (i + 1).toNat)) := by unfold okB; rfl
    rw [e]
    by_cases h1 : rd xs i < 0
    · rw [if_pos h1, decide_eq_false (by omega)]; rfl
    · rw [if_neg h1]
      by_cases h2 : rd xs i > 1000
      · rw [if_pos h2, decide_eq_false (by omega)]; rfl
      · rw [if_neg h2, decide_eq_true (by omega), Bool.true_and, ih (i + 1) k (by omega) (by omega) (by omega)]
theorem rcheck_f (xs : List Int) (j : Nat) : gangsawref35_Check.f (100 + j) xs = some (chk xs) := by
  unfold gangsawref35_Check.f chk
  rw [show 100 + j = 99 + j + 1 by omega]
  simp only [gangsawref35_Check.j0]
  by_cases h1 : (xs.length : Int) < 1
  · simp only [if_pos h1, if_true]
    rw [if_neg (by omega)]
  · rw [if_neg h1]
    by_cases h2 : (xs.length : Int) > 64
    · rw [if_pos (by simpa using h2), if_neg (by omega)]
    · rw [if_neg (by simpa using h2), if_pos (by omega), rcheck0 xs (by omega) xs.length 0 _ (by omega) (by omega) (by omega)]
      rfl
theorem rapart_f {x y : Int} (hx : 0 ≤ x ∧ x ≤ 1000) (hy : 0 ≤ y ∧ y ≤ 1000) : gangsawref35_apart.f x y = some (ab x y) := by
  unfold gangsawref35_apart.f ab
  rw [wr (by omega), wr (by omega)]
  split <;> rfl
theorem ab_bd {x y : Int} (hx : 0 ≤ x ∧ x ≤ 1000) (hy : 0 ≤ y ∧ y ≤ 1000) : 0 ≤ ab x y ∧ ab x y ≤ 1000 := by unfold ab; split <;> omega
theorem rmis0 {a b : List Int} (ha : Good a) (hb : Good b) (hl : a.length = b.length) : ∀ (m : Nat) (i s n : Int) (k : Nat), 0 ≤ i → i + m = a.length → m < k → 0 ≤ s → s ≤ 1000 * i →
    gangsawref35_Mismatch.l0 k a b s i = some (mo a 0 (b.drop i.toNat) i s n).1 := by
  have h64 := ha.hi
  intro m
  induction m with
  | zero =>
    intro i s n k h0 hm hk _ _
    obtain ⟨k, rfl⟩ : ∃ q, k = q + 1 := ⟨k - 1, by omega⟩
    simp only [gangsawref35_Mismatch.l0]
    rw [if_neg (by omega), drop_end (by omega)]
    rfl
  | succ m ih =>
    intro i s n k h0 hm hk hs0 hs
    obtain ⟨k, rfl⟩ : ∃ q, k = q + 1 := ⟨k - 1, by omega⟩
    simp only [gangsawref35_Mismatch.l0]
    have r1 := okB_rd ha.ok h0 (by omega : i < a.length)
    have r2 := okB_rd hb.ok h0 (by omega : i < b.length)
    have r3 := ab_bd r1 r2
    rw [if_pos (by omega), if_pos h0, if_pos (by omega), drop_rd h0 (by omega), rapart_f r1 r2]
    simp only [Option.bind_some]
    rw [wr (by omega), wr (by omega), ih (i + 1) _ (n + 1) k (by omega) (by omega) (by omega) (by omega) (by omega)]
    rw [mo_cons, if_pos (by omega), Int.add_zero]
theorem rMismatch_f {a b : List Int} (ha : Good a) (hb : Good b) (hl : a.length = b.length) (j : Nat) : gangsawref35_Mismatch.f (100 + j) a b = some (mo a 0 b 0 0 0).1 := by
  have h64 := ha.hi
  unfold gangsawref35_Mismatch.f
  rw [rmis0 ha hb hl a.length 0 0 0 _ (by omega) (by omega) (by omega) (by omega) (by omega)]
  rfl
theorem kj {k : Nat} (n : Nat) (h : n ≤ k) : ∃ j, k = n + j := Nat.exists_eq_add_of_le h
theorem check_k (xs : List Int) {k : Nat} (hk : 100 ≤ k) : colour_Check.f k xs = some (chk xs) := by obtain ⟨j, rfl⟩ := kj _ hk; exact check_f xs j
theorem Mirror_k (xs : List Int) {k : Nat} (hk : 100 ≤ k) : colour_Mirror.f k xs = some (if chk xs = 0 then (xs.reverse, 0) else ([], chk xs)) := by obtain ⟨j, rfl⟩ := kj _ hk; exact Mirror_f xs j
theorem rsame_k (xs ys : List Int) (hl : xs.length ≤ 1000) {k : Nat} (hk : 1100 ≤ k) : gangsawref35_Same.f k xs ys = some (decide (xs = ys)) := by obtain ⟨j, rfl⟩ := kj _ hk; exact rsame_f xs ys hl j
theorem Mismatch_k (a b : List Int) {k : Nat} (hk : 100 ≤ k) : colour_Mismatch.f k a b = some (if two a b = 0 then ((mo a 0 b 0 0 0).1, 0) else (0, two a b)) := by obtain ⟨j, rfl⟩ := kj _ hk; exact Mismatch_f a b j
theorem rcheck_k (xs : List Int) {k : Nat} (hk : 100 ≤ k) : gangsawref35_Check.f k xs = some (chk xs) := by obtain ⟨j, rfl⟩ := kj _ hk; exact rcheck_f xs j
theorem rMismatch_k {a b : List Int} (ha : Good a) (hb : Good b) (hl : a.length = b.length) {k : Nat} (hk : 100 ≤ k) : gangsawref35_Mismatch.f k a b = some (mo a 0 b 0 0 0).1 := by obtain ⟨j, rfl⟩ := kj _ hk; exact rMismatch_f ha hb hl j
theorem aw100 : gangsawlaw35_awake.f 100 = some true := by decide +kernel
theorem aw {k : Nat} (hk : 100 ≤ k) : gangsawlaw35_awake.f k = some true := at_rounds (g := gangsawlaw35_awake.f) (fun k => gangsawlaw35_awake.mono k) hk aw100
theorem okB_reverse (a : List Int) : okB a.reverse = okB a := by unfold okB; rw [List.all_reverse]
theorem good_reverse {a : List Int} (h : XA.Good a) : XA.Good a.reverse := ⟨by rw [List.length_reverse]; exact h.lo, by rw [List.length_reverse]; exact h.hi, by rw [okB_reverse]; exact h.ok⟩
theorem rmirror0 (xs : List Int) (hl : xs.length ≤ 1000) : ∀ (m : Nat) (acc : List Int) (k : Nat), m ≤ xs.length → acc.length + m = xs.length → m < k →
    gangsawref35_Mirror.l0 k xs acc ((m : Int) - 1) = some (acc ++ (xs.take m).reverse) := by
  intro m
  induction m with
  | zero =>
    intro acc k h0 hm hk
    obtain ⟨k, rfl⟩ : ∃ q, k = q + 1 := ⟨k - 1, by omega⟩
    simp only [gangsawref35_Mirror.l0]
    rw [if_neg (by omega)]
    simp
  | succ m ih =>
    intro acc k h0 hm hk
    obtain ⟨k, rfl⟩ : ∃ q, k = q + 1 := ⟨k - 1, by omega⟩
    simp only [gangsawref35_Mirror.l0]
    rw [show ((m + 1 : Nat) : Int) - 1 = m by omega]
    obtain ⟨h, e⟩ := rd_at (xs := xs) (i := m) (by omega) (by omega)
    have h' : m < xs.length := by omega
    rw [if_pos (by omega), if_pos (by omega), if_pos (by omega), if_pos (by omega), wr (by omega), ih _ k (by omega) (by simp; omega) (by omega), e]
    have e2 : xs.take (m + 1) = xs.take m ++ [xs[m]] := List.take_succ_eq_append_getElem h'
    rw [e2, List.reverse_append, List.append_assoc]
    rfl
theorem rMirror_k (xs : List Int) (hl : xs.length ≤ 1000) {k : Nat} (hk : 1100 ≤ k) : gangsawref35_Mirror.f k xs = some xs.reverse := by
  unfold gangsawref35_Mirror.f
  rw [wr (by omega), rmirror0 xs hl xs.length [] k (by omega) (by simp) (by omega), List.take_length, List.nil_append]
end Go.Proofs.Ytejnelflfldfgaa.XA
