import Derived.Test.YtaainbbkengjfaaMa
import Derived.Test.YtaainbbkengjfaaXAx8
import Derived.Test.YtaainbbkengjfaaXAx9
import Derived.Test.YtaainbbkengjfaaXAx15
namespace Go.Proofs.Ytaainbbkengjfaa.XA
set_option linter.unusedVariables false
set_option linter.unusedSimpArgs false
open Go.RowKit Go.Proofs.Ytaainbbkengjfaa.Opens Go.Proofs.YtaainbbkengjfaaW.PrintWords Go.Proofs.YtaainbbkengjfaaW.PrintLast Go.Proofs.YtaainbbkengjfaaW.PrintMore

/-- The error of a rule. -/
def chk (a b c d e f : Int) : Int :=
  if (1 ≤ a ∧ a ≤ 10000) ∧ (1 ≤ b ∧ b ≤ 10000) ∧ (1 ≤ c ∧ c ≤ 10000) ∧ (1 ≤ d ∧ d ≤ 10000) ∧ (1 ≤ e ∧ e ≤ 30000) ∧ (1 ≤ f ∧ f ≤ 30000) then (if a > b then 1 else if c > d then 1 else if e > f then 1 else 0) else 6
theorem check_f (a b c d e f : Int) (j : Nat) : stair_Check.f (10 + j) a b c d e f = some (chk a b c d e f) := by
  rw [show 10 + j = (j + 6) + 1 + 1 + 1 + 1 by omega]
  have w1 : wrap64 (0 + 1) = 1 := by unfold wrap64; omega
  have w2 : wrap64 (1 + 1) = 2 := by unfold wrap64; omega
  have w3 : wrap64 (2 + 1) = 3 := by unfold wrap64; omega
  unfold stair_Check.f chk
  simp only [stair_Check.l0, Option.bind_some, in_f, rd_T68, List.length_cons, List.length_nil, w1, w2, w3]
  simp
  grind
theorem rcheck_f (a b c d e f : Int) (j : Nat) : gangsawref42_Check.f (10 + j) a b c d e f = some (chk a b c d e f) := by
  rw [show 10 + j = (j + 2) + 1 + 1 + 1 + 1 + 1 + 1 + 1 + 1 by omega]
  have w1 : wrap64 (0 + 1) = 1 := by unfold wrap64; omega
  have w2 : wrap64 (1 + 1) = 2 := by unfold wrap64; omega
  have w3 : wrap64 (2 + 1) = 3 := by unfold wrap64; omega
  unfold gangsawref42_Check.f chk
  simp only [gangsawref42_Check.l0, gangsawref42_Check.l1, Option.bind_some, rin_f, rd_T23, rd, List.length_cons, List.length_nil, w1, w2, w3]
  simp
  grind
theorem wr {x : Int} (h : -9223372036854775808 ≤ x ∧ x ≤ 9223372036854775807) : wrap64 x = x := by unfold wrap64; omega
theorem highest_f (n r x g w l : Int) (h : V n r x g w l) : stair_highest.f n r x g w l = some (if 0 < x then r + 1 else r) := by
  unfold V at h
  unfold stair_highest.f
  rw [wr (by omega)]
  split <;> simp_all
theorem rise_f (n r x g w l j : Int) (h : V n r x g w l) : gangsawref42_Rise.f n r x g w l j = some (if j < x then r + 1 else r) := by
  unfold V at h
  unfold gangsawref42_Rise.f
  rw [wr (by omega)]
  split <;> simp_all
theorem has_f (a b c : Int) : stair_has.f a b c = some (decide (a ≤ c ∧ c ≤ b)) := by
  unfold stair_has.f; rw [in_f]; rfl
/-- The error of a valid flight under a rule. -/
def kps (a b c d e f n r x g w l : Int) : Int :=
  if (a ≤ r ∧ r ≤ b) ∧ (0 < x → r + 1 ≤ b) ∧ (c ≤ g ∧ g ≤ d) then (if e ≤ 2 * r + g ∧ 2 * r + g ≤ f ∧ (0 < x → 2 * (r + 1) + g ≤ f) then 0 else 10) else 6
theorem keeps1 (a b c d e f n r x g w l : Int) (h : V n r x g w l) : ∀ (m : Nat) (i : Int) (k : Nat), 0 ≤ i → i + m = n → m < k →
    gangsawref42_Keeps.l1 k i a b c d e f n r x g w l = some (if (i < x → e ≤ 2 * (r + 1) + g ∧ 2 * (r + 1) + g ≤ f) ∧ (i < n → e ≤ 2 * r + g ∧ 2 * r + g ≤ f) then 0 else 10) := by
  intro m
  induction m with
  | zero =>
    intro i k h0 hm hk
    obtain ⟨k, rfl⟩ : ∃ q, k = q + 1 := ⟨k - 1, by omega⟩
    have := h
    unfold V at this
    simp only [gangsawref42_Keeps.l1]
    rw [if_neg (by omega), if_pos (by omega)]
  | succ m ih =>
    intro i k h0 hm hk
    obtain ⟨k, rfl⟩ : ∃ q, k = q + 1 := ⟨k - 1, by omega⟩
    have hV := h
    unfold V at hV
    simp only [gangsawref42_Keeps.l1]
    rw [if_pos (by omega), rise_f _ _ _ _ _ _ _ h]
    simp only [Option.bind_some, rin_f]
    rw [wr (x := i + 1) (by omega), ih (i + 1) k (by omega) (by omega) (by omega)]
    rw [wr (x := 2 * (if i < x then r + 1 else r)) (by split <;> omega), wr (x := 2 * (if i < x then r + 1 else r) + g) (by split <;> omega)]
    grind
theorem keeps0 (a b c d e f n r x g w l : Int) (h : V n r x g w l) : ∀ (m : Nat) (i : Int) (k : Nat), 0 ≤ i → i + m = n → m + 70 < k →
    gangsawref42_Keeps.l0 k i a b c d e f n r x g w l = some (if (i < x → a ≤ r + 1 ∧ r + 1 ≤ b) ∧ (i < n → a ≤ r ∧ r ≤ b) then (if c ≤ g ∧ g ≤ d then (if (0 < x → e ≤ 2 * (r + 1) + g ∧ 2 * (r + 1) + g ≤ f) ∧ (0 < n → e ≤ 2 * r + g ∧ 2 * r + g ≤ f) then 0 else 10) else 6) else 6) := by
  intro m
  induction m with
  | zero =>
    intro i k h0 hm hk
    obtain ⟨k, rfl⟩ : ∃ q, k = q + 1 := ⟨k - 1, by omega⟩
    have hV := h
    unfold V at hV
    simp only [gangsawref42_Keeps.l0]
    rw [if_neg (by omega), if_pos (by omega), rin_f, keeps1 _ _ _ _ _ _ _ _ _ _ _ _ h n.toNat 0 k (by omega) (by omega) (by omega)]
    simp only [Option.bind_some]
    grind
  | succ m ih =>
    intro i k h0 hm hk
    obtain ⟨k, rfl⟩ : ∃ q, k = q + 1 := ⟨k - 1, by omega⟩
    have hV := h
    unfold V at hV
    simp only [gangsawref42_Keeps.l0]
    rw [if_pos (by omega), rise_f _ _ _ _ _ _ _ h]
    simp only [Option.bind_some, rin_f]
    rw [wr (x := i + 1) (by omega), ih (i + 1) k (by omega) (by omega) (by omega)]
    grind
theorem keeps_f (a b c d e f n r x g w l : Int) (h : V n r x g w l) (j : Nat) : gangsawref42_Keeps.f (200 + j) a b c d e f n r x g w l = some (kps a b c d e f n r x g w l) := by
  unfold gangsawref42_Keeps.f
  have hV := h
  unfold V at hV
  rw [keeps0 _ _ _ _ _ _ _ _ _ _ _ _ h n.toNat 0 _ (by omega) (by omega) (by omega)]
  unfold kps
  grind
def fts (a b c d e f n r x g w l : Int) : Int := if chk a b c d e f = 0 then (if V n r x g w l then kps a b c d e f n r x g w l else 1) else chk a b c d e f
theorem rfits_f (a b c d e f n r x g w l : Int) (j : Nat) : gangsawref42_Fits.f (200 + j) a b c d e f n r x g w l = some (fts a b c d e f n r x g w l) := by
  unfold gangsawref42_Fits.f fts
  rw [show 200 + j = 10 + (190 + j) by omega, rcheck_f, rvalid_f, show 10 + (190 + j) = 200 + j by omega]
  by_cases h : V n r x g w l
  · rw [keeps_f _ _ _ _ _ _ _ _ _ _ _ _ h]
    simp only [Option.bind_some, h]
    grind
  · simp only [Option.bind_some, h]
    grind
theorem fits_f (a b c d e f n r x g w l : Int) (j : Nat) : stair_Fits.f (200 + j) a b c d e f n r x g w l = some (fts a b c d e f n r x g w l) := by
  unfold stair_Fits.f fts
  rw [show 200 + j = 10 + (190 + j) by omega, check_f, valid_f, show 10 + (190 + j) = (199 + j) + 1 by omega]
  by_cases h : V n r x g w l
  · rw [highest_f _ _ _ _ _ _ h]
    have hV := h
    unfold V at hV
    simp only [Option.bind_some, h, has_f, stair_Fits.j0, highest_f _ _ _ _ _ _ h, kps]
    rw [wr (x := 2 * r) (by omega), wr (x := 2 * r + g) (by omega), wr (x := 2 * (if 0 < x then r + 1 else r)) (by split <;> omega), wr (x := 2 * (if 0 < x then r + 1 else r) + g) (by split <;> omega)]
    grind
  · simp only [Option.bind_some, h]
    grind
theorem mul_lim {a b : Int} (ha : 0 ≤ a) (ha' : a ≤ 64) (hb : 0 ≤ b) (hb' : b ≤ 10000) : 0 ≤ a * b ∧ a * b ≤ 640000 := by
  have h1 := Int.mul_nonneg ha hb
  have h2 := Int.mul_le_mul ha' hb' hb (by omega : (0 : Int) ≤ 64)
  omega
theorem level_f (n r x g w l s : Int) (h : V n r x g w l) (h0 : 0 ≤ s) (h1 : s ≤ n) : stair_level.f n r x g w l s = some (s * r + mn s x) := by
  unfold V at h
  have hm := mul_lim (a := s) (b := r) (by omega) (by omega) (by omega) (by omega)
  unfold stair_level.f
  have e3 : 0 ≤ mn s x ∧ mn s x ≤ s := by unfold mn; split <;> omega
  rw [wr (x := s * r) (by omega), wr (by omega)]
theorem height_f (n r x g w l : Int) (h : V n r x g w l) : stair_Height.f n r x g w l = some (n * r + x, n * g, 0) := by
  have hV := h
  unfold V at hV
  have hm := mul_lim (a := n) (b := g) (by omega) (by omega) (by omega) (by omega)
  unfold stair_Height.f
  rw [valid_f, decide_eq_true h]
  simp only [Option.bind_some, if_true]
  rw [level_f _ _ _ _ _ _ _ h (by omega) (by omega), wr (x := n * g) (by omega), show mn n x = x by unfold mn; split <;> omega]
  rfl
theorem height_no (n r x g w l : Int) (h : ¬ V n r x g w l) : stair_Height.f n r x g w l = some (0, 0, 1) := by
  unfold stair_Height.f
  rw [valid_f, decide_eq_false h]
  rfl
theorem Level_f (n r x g w l s : Int) (hs : -9223372036854775808 ≤ s ∧ s ≤ 9223372036854775807) : stair_Level.f n r x g w l s = some (if V n r x g w l then (if 0 ≤ s ∧ s < n then ((s + 1) * r + mn (s + 1) x, 0) else (0, 9)) else (0, 1)) := by
  unfold stair_Level.f
  rw [valid_f]
  by_cases h : V n r x g w l
  · have hV := h
    unfold V at hV
    simp only [Option.bind_some, h, decide_true, if_true]
    by_cases h1 : s < 0
    · rw [if_pos h1, if_neg (by omega)]
    · rw [if_neg h1]
      by_cases h2 : s ≥ n
      · rw [if_pos h2, if_neg (by omega)]
      · rw [if_neg h2, if_pos (by omega), wr (x := s + 1) (by omega), level_f _ _ _ _ _ _ _ h (by omega) (by omega)]
        rfl
  · simp [h]
theorem rlevel0 (n r x g w l s : Int) (h : V n r x g w l) (hs : s < n) : ∀ (m : Nat) (i : Int) (k : Nat), 0 ≤ i → i + m = s + 1 → m < k →
    gangsawref42_Level.l0 k s (i * r + mn i x) i n r x g w l = some ((s + 1) * r + mn (s + 1) x) := by
  intro m
  induction m with
  | zero =>
    intro i k h0 hm hk
    obtain ⟨k, rfl⟩ : ∃ q, k = q + 1 := ⟨k - 1, by omega⟩
    simp only [gangsawref42_Level.l0]
    rw [if_neg (by omega), show i = s + 1 by omega]
  | succ m ih =>
    intro i k h0 hm hk
    obtain ⟨k, rfl⟩ : ∃ q, k = q + 1 := ⟨k - 1, by omega⟩
    have hV := h
    unfold V at hV
    have hml := mul_lim (a := i) (b := r) (by omega) (by omega) (by omega) (by omega)
    simp only [gangsawref42_Level.l0]
    rw [if_pos (by omega), rise_f _ _ _ _ _ _ _ h]
    simp only [Option.bind_some]
    have e : i * r + mn i x + (if i < x then r + 1 else r) = (i + 1) * r + mn (i + 1) x := by
      rw [Int.add_mul, Int.one_mul]; unfold mn; split <;> split <;> split <;> omega
    have e3 : 0 ≤ mn i x ∧ mn i x ≤ i := by unfold mn; split <;> omega
    rw [wr (x := i + 1) (by omega), wr (x := i * r + mn i x + (if i < x then r + 1 else r)) (by split <;> omega), e]
    exact ih (i + 1) k (by omega) (by omega) (by omega)
theorem rlevel_f (n r x g w l s : Int) (h : V n r x g w l) (h0 : -1 ≤ s) (h1 : s < n) (j : Nat) : gangsawref42_Level.f (100 + j) n r x g w l s = some ((s + 1) * r + mn (s + 1) x) := by
  have hV := h
  unfold V at hV
  have := rlevel0 n r x g w l s h h1 (s + 1).toNat 0 (100 + j) (by omega) (by omega) (by omega)
  unfold gangsawref42_Level.f
  rwa [show (0 : Int) * r + mn 0 x = 0 by rw [Int.zero_mul]; unfold mn; split <;> omega] at this
end Go.Proofs.Ytaainbbkengjfaa.XA
