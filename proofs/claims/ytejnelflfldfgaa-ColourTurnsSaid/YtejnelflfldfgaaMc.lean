import Derived.Test.YtejnelflfldfgaaXAx8
import Derived.Test.YtejnelflfldfgaaMb
namespace Go.Proofs.Ytejnelflfldfgaa.XA
set_option linter.unusedVariables false
set_option linter.unusedSimpArgs false
open Go.RowKit Go.Proofs.Ytejnelflfldfgaa.Opens Go.Proofs.YtejnelflfldfgaaW.PrintWords Go.Proofs.YtejnelflfldfgaaW.PrintLast Go.Proofs.YtejnelflfldfgaaW.PrintMore
theorem drop_rd {xs : List Int} {i : Int} (h0 : 0 ≤ i) (h1 : i < xs.length) : xs.drop i.toNat = rd xs i :: xs.drop (i + 1).toNat := by
  obtain ⟨h, e⟩ := rd_at h0 h1
  rw [e, show (i + 1).toNat = i.toNat + 1 by omega]
  exact List.drop_eq_getElem_cons h
theorem drop_end {xs : List Int} {i : Int} (h1 : xs.length ≤ i) : xs.drop i.toNat = [] := List.drop_eq_nil_of_le (by omega)
theorem mo_cons (a : List Int) (b y : Int) (ys : List Int) (i s n : Int) : mo a b (y :: ys) i s n = if 0 ≤ i + b ∧ i + b < a.length then mo a b ys (i + 1) (s + ab (rd a (i + b)) y) (n + 1) else mo a b ys (i + 1) s n := rfl
theorem rcheck0 (xs : List Int) (hl : xs.length ≤ 64) : ∀ (m : Nat) (i : Int) (k : Nat), 0 ≤ i → i + m = xs.length → m < k →
    gangsawref35_Check.l0 k xs i = some (if okB (xs.drop i.toNat) = true then 0 else 6) := by
  intro m
  induction m with
  | zero =>
    intro i k h0 hm hk
    obtain ⟨k, rfl⟩ : ∃ q, k = q + 1 := ⟨k - 1, by omega⟩
    simp only [gangsawref35_Check.l0]
    rw [if_neg (by omega), drop_end (by omega)]
    rfl
  | succ m ih =>
    intro i k h0 hm hk
    obtain ⟨k, rfl⟩ : ∃ q, k = q + 1 := ⟨k - 1, by omega⟩
    simp only [gangsawref35_Check.l0]
    rw [if_pos (by omega), if_pos h0, drop_rd h0 (by omega), wr (by omega)]
    have e : okB (rd xs i :: xs.drop (i + 1).toNat) = (decide (0 ≤ rd xs i ∧ rd xs i ≤ 1000) && okB (xs.drop (i + 1).toNat)) := by unfold okB; rfl
    rw [e]
    by_cases h1 : rd xs i < 0
    · rw [if_pos h1, decide_eq_false (by omega)]; rfl
    · rw [if_neg h1]
      by_cases h2 : rd xs i > 1000
      · rw [if_pos h2, decide_eq_false (by omega)]; rfl
      · rw [if_neg h2, decide_eq_true (by omega), Bool.true_and, ih (i + 1) k (by omega) (by omega) (by omega)]
theorem rcheck_f (xs : List Int) (j : Nat) : gangsawref35_Check.f (100 + j) xs = some (chk xs) := by
  unfold gangsawref35_Check.f chk
  rw [show 100 + j = 99 + j + 1 by omega]
  simp only [gangsawref35_Check.j0]
  by_cases h1 : (xs.length : Int) < 1
  · simp only [if_pos h1, if_true]
    rw [if_neg (by omega)]
  · rw [if_neg h1]
    by_cases h2 : (xs.length : Int) > 64
    · rw [if_pos (by simpa using h2), if_neg (by omega)]
    · rw [if_neg (by simpa using h2), if_pos (by omega), rcheck0 xs (by omega) xs.length 0 _ (by omega) (by omega) (by omega)]
      rfl
theorem rtwo_f (a b : List Int) (j : Nat) : gangsawref35_Two.f (100 + j) a b = some (two a b) := by
  unfold gangsawref35_Two.f two
  rw [rcheck_f, rcheck_f]
  simp only [Option.bind_some]
  by_cases h1 : chk a = 0
  · rw [if_pos h1, if_pos h1]
    by_cases h2 : chk b = 0
    · rw [if_pos h2, if_pos h2]
      by_cases h3 : a.length = b.length
      · rw [if_pos h3, if_pos (by omega)]
      · rw [if_neg h3, if_neg (by omega)]
    · rw [if_neg h2, if_neg h2]
  · rw [if_neg h1, if_neg h1]
theorem rapart_f {x y : Int} (hx : 0 ≤ x ∧ x ≤ 1000) (hy : 0 ≤ y ∧ y ≤ 1000) : gangsawref35_apart.f x y = some (ab x y) := by
  unfold gangsawref35_apart.f ab
  rw [wr (by omega), wr (by omega)]
  split <;> rfl
theorem ab_bd {x y : Int} (hx : 0 ≤ x ∧ x ≤ 1000) (hy : 0 ≤ y ∧ y ≤ 1000) : 0 ≤ ab x y ∧ ab x y ≤ 1000 := by unfold ab; split <;> omega
theorem rmis0 {a b : List Int} (ha : Good a) (hb : Good b) (hl : a.length = b.length) : ∀ (m : Nat) (i s n : Int) (k : Nat), 0 ≤ i → i + m = a.length → m < k → 0 ≤ s → s ≤ 1000 * i →
    gangsawref35_Mismatch.l0 k a b s i = some (mo a 0 (b.drop i.toNat) i s n).1 := by
  have h64 := ha.hi
  intro m
  induction m with
  | zero =>
    intro i s n k h0 hm hk _ _
    obtain ⟨k, rfl⟩ : ∃ q, k = q + 1 := ⟨k - 1, by omega⟩
    simp only [gangsawref35_Mismatch.l0]
    rw [if_neg (by omega), drop_end (by omega)]
    rfl
  | succ m ih =>
    intro i s n k h0 hm hk hs0 hs
    obtain ⟨k, rfl⟩ : ∃ q, k = q + 1 := ⟨k - 1, by omega⟩
    simp only [gangsawref35_Mismatch.l0]
    have r1 := okB_rd ha.ok h0 (by omega : i < a.length)
    have r2 := okB_rd hb.ok h0 (by omega : i < b.length)
    have r3 := ab_bd r1 r2
    rw [if_pos (by omega), if_pos h0, if_pos (by omega), drop_rd h0 (by omega), rapart_f r1 r2]
    simp only [Option.bind_some]
    rw [wr (by omega), wr (by omega), ih (i + 1) _ (n + 1) k (by omega) (by omega) (by omega) (by omega) (by omega)]
    rw [mo_cons, if_pos (by omega), Int.add_zero]
theorem rMismatch_f {a b : List Int} (ha : Good a) (hb : Good b) (hl : a.length = b.length) (j : Nat) : gangsawref35_Mismatch.f (100 + j) a b = some (mo a 0 b 0 0 0).1 := by
  have h64 := ha.hi
  unfold gangsawref35_Mismatch.f
  rw [rmis0 ha hb hl a.length 0 0 0 _ (by omega) (by omega) (by omega) (by omega) (by omega)]
  rfl
theorem roff0 {a b : List Int} (ha : Good a) (hb : Good b) (d : Int) (hd : -64 ≤ d ∧ d ≤ 64) (hp : 0 < (mo a d b 0 0 0).2) : ∀ (m : Nat) (i s n : Int) (k : Nat), 0 ≤ i → i + m = b.length → m < k → 0 ≤ s → s ≤ 1000 * i → 0 ≤ n → n ≤ i →
    mo a d (b.drop i.toNat) i s n = mo a d b 0 0 0 → gangsawref35_Offset.l0 k a b d s n i = some (off a b d) := by
  have h64 := ha.hi
  have h65 := hb.hi
  intro m
  induction m with
  | zero =>
    intro i s n k h0 hm hk _ _ _ _ he
    obtain ⟨k, rfl⟩ : ∃ q, k = q + 1 := ⟨k - 1, by omega⟩
    simp only [gangsawref35_Offset.l0]
    rw [drop_end (by omega)] at he
    unfold off
    rw [← he] at hp ⊢
    simp only [mo] at hp ⊢
    have := tdiv_bd (x := 1000 * s) (y := n) (by omega) hp
    rw [if_neg (by omega), if_neg (by omega), wr (x := 1000 * s) (by omega), wr (by omega)]
  | succ m ih =>
    intro i s n k h0 hm hk hs0 hs hn0 hn he
    obtain ⟨k, rfl⟩ : ∃ q, k = q + 1 := ⟨k - 1, by omega⟩
    simp only [gangsawref35_Offset.l0]
    rw [if_pos (by omega), wr (x := i + d) (by omega), wr (x := i + 1) (by omega)]
    rw [drop_rd h0 (by omega), mo_cons] at he
    have r2 := okB_rd hb.ok h0 (by omega : i < b.length)
    by_cases q : 0 ≤ i + d ∧ i + d < a.length
    · rw [if_pos q] at he
      have r1 := okB_rd ha.ok q.1 q.2
      have r3 := ab_bd r1 r2
      rw [if_pos (by omega), if_pos q.2, if_pos q.1, if_pos h0, rapart_f r1 r2]
      simp only [Option.bind_some]
      rw [wr (by omega), wr (by omega)]
      exact ih (i + 1) _ _ k (by omega) (by omega) (by omega) (by omega) (by omega) (by omega) (by omega) he
    · rw [if_neg q] at he
      have := ih (i + 1) s n k (by omega) (by omega) (by omega) (by omega) (by omega) (by omega) (by omega) he
      by_cases q1 : i + d ≥ 0
      · rw [if_pos q1, if_neg (by omega), this]
      · rw [if_neg q1, this]
theorem roff_f {a b : List Int} (ha : Good a) (hb : Good b) (hl : a.length = b.length) {d : Int} (h : -(a.length : Int) < d ∧ d < a.length) (j : Nat) : gangsawref35_Offset.f (100 + j) a b d = some (off a b d) := by
  have h64 := ha.hi
  have h65 := hb.hi
  unfold gangsawref35_Offset.f
  exact roff0 ha hb d (by omega) (mo_pos ha hb hl h) b.length 0 0 0 _ (by omega) (by omega) (by omega) (by omega) (by omega) (by omega) (by omega) rfl
theorem kj {k : Nat} (n : Nat) (h : n ≤ k) : ∃ j, k = n + j := Nat.exists_eq_add_of_le h
theorem check_k (xs : List Int) {k : Nat} (hk : 100 ≤ k) : colour_Check.f k xs = some (chk xs) := by obtain ⟨j, rfl⟩ := kj _ hk; exact check_f xs j
theorem Mirror_k (xs : List Int) {k : Nat} (hk : 100 ≤ k) : colour_Mirror.f k xs = some (if chk xs = 0 then (xs.reverse, 0) else ([], chk xs)) := by obtain ⟨j, rfl⟩ := kj _ hk; exact Mirror_f xs j
theorem rsame_k (xs ys : List Int) (hl : xs.length ≤ 1000) {k : Nat} (hk : 1100 ≤ k) : gangsawref35_Same.f k xs ys = some (decide (xs = ys)) := by obtain ⟨j, rfl⟩ := kj _ hk; exact rsame_f xs ys hl j
theorem Mismatch_k (a b : List Int) {k : Nat} (hk : 100 ≤ k) : colour_Mismatch.f k a b = some (if two a b = 0 then ((mo a 0 b 0 0 0).1, 0) else (0, two a b)) := by obtain ⟨j, rfl⟩ := kj _ hk; exact Mismatch_f a b j
theorem Offset_k (a b : List Int) (d : Int) {k : Nat} (hk : 100 ≤ k) : colour_Offset.f k a b d = some (if two a b = 0 then (if d ≤ -(a.length : Int) then (0, 6) else if d ≥ a.length then (0, 6) else (off a b d, 0)) else (0, two a b)) := by obtain ⟨j, rfl⟩ := kj _ hk; exact Offset_f a b d j
theorem Align_k (a b : List Int) (most : Int) {k : Nat} (hk : 400 ≤ k) : colour_Align.f k a b most = some (if two a b = 0 then (if most < 0 ∨ most > (a.length : Int) - 1 then (0, 0, 6) else ((al a b most.toNat 1 0 (off a b 0)).1, (al a b most.toNat 1 0 (off a b 0)).2, 0)) else (0, 0, two a b)) := by obtain ⟨j, rfl⟩ := kj _ hk; exact Align_f a b most j
theorem rcheck_k (xs : List Int) {k : Nat} (hk : 100 ≤ k) : gangsawref35_Check.f k xs = some (chk xs) := by obtain ⟨j, rfl⟩ := kj _ hk; exact rcheck_f xs j
theorem rtwo_k (a b : List Int) {k : Nat} (hk : 100 ≤ k) : gangsawref35_Two.f k a b = some (two a b) := by obtain ⟨j, rfl⟩ := kj _ hk; exact rtwo_f a b j
theorem rMismatch_k {a b : List Int} (ha : Good a) (hb : Good b) (hl : a.length = b.length) {k : Nat} (hk : 100 ≤ k) : gangsawref35_Mismatch.f k a b = some (mo a 0 b 0 0 0).1 := by obtain ⟨j, rfl⟩ := kj _ hk; exact rMismatch_f ha hb hl j
theorem roff_k {a b : List Int} (ha : Good a) (hb : Good b) (hl : a.length = b.length) {d : Int} (h : -(a.length : Int) < d ∧ d < a.length) {k : Nat} (hk : 100 ≤ k) : gangsawref35_Offset.f k a b d = some (off a b d) := by obtain ⟨j, rfl⟩ := kj _ hk; exact roff_f ha hb hl h j
theorem aw100 : gangsawlaw35_awake.f 100 = some true := by decide +kernel
theorem aw {k : Nat} (hk : 100 ≤ k) : gangsawlaw35_awake.f k = some true := at_rounds (g := gangsawlaw35_awake.f) (fun k => gangsawlaw35_awake.mono k) hk aw100
end Go.Proofs.Ytejnelflfldfgaa.XA
