import Derived.Test.YtglkcinmohjblaaDoorXAx37
import Derived.Test.YtglkcinmohjblaaDoorXAx43
import Derived.Test.YtglkcinmohjblaaDoorXAx44
import Derived.Test.YtglkcinmohjblaaDoorXAx48
set_option linter.unusedVariables false
set_option linter.unusedSimpArgs false
namespace Go.Proofs.YtglkcinmohjblaaDoor.XA
set_option linter.unusedVariables false
set_option linter.unusedSimpArgs false
open Go.RowKit Opens YtglkcinmohjblaaDoorW.PrintWords YtglkcinmohjblaaDoorW.PrintLast YtglkcinmohjblaaDoorW.PrintMore
theorem wr {x : Int} (h : -9223372036854775808 ≤ x ∧ x ≤ 9223372036854775807) : wrap64 x = x := by unfold wrap64; omega
theorem rd_at {xs : List Int} {i : Int} (h0 : 0 ≤ i) (h1 : i < xs.length) : ∃ h : i.toNat < xs.length, rd xs i = xs[i.toNat] := by
  have h : i.toNat < xs.length := by omega
  refine ⟨h, ?_⟩
  unfold rd
  rw [List.getD_eq_getElem?_getD, List.getElem?_eq_getElem h]
  rfl
theorem rd_mem {xs : List Int} {i : Int} (h0 : 0 ≤ i) (h1 : i < xs.length) : rd xs i ∈ xs := by
  obtain ⟨h, e⟩ := rd_at h0 h1
  rw [e]; exact List.getElem_mem h
theorem mem_rd {xs : List Int} {x : Int} (h : x ∈ xs) : ∃ i : Int, 0 ≤ i ∧ i < xs.length ∧ rd xs i = x := by
  obtain ⟨n, hn, e⟩ := List.mem_iff_getElem.1 h
  refine ⟨n, by omega, by omega, ?_⟩
  obtain ⟨h', e'⟩ := rd_at (xs := xs) (i := n) (by omega) (by omega)
  rw [e', ← e]; rfl
theorem rd_ext {xs ys : List Int} (hl : xs.length = ys.length) (h : ∀ i : Int, 0 ≤ i → i < xs.length → rd xs i = rd ys i) : xs = ys := by
  apply List.ext_getElem hl
  intro n h1 h2
  have := h n (by omega) (by omega)
  obtain ⟨_, e1⟩ := rd_at (xs := xs) (i := n) (by omega) (by omega)
  obtain ⟨_, e2⟩ := rd_at (xs := ys) (i := n) (by omega) (by omega)
  rw [e1, e2] at this
  exact this
theorem rd_reverse {xs : List Int} {i : Int} (h0 : 0 ≤ i) (h1 : i < xs.length) : rd xs.reverse i = rd xs (xs.length - 1 - i) := by
  obtain ⟨_, e1⟩ := rd_at (xs := xs.reverse) (i := i) h0 (by rw [List.length_reverse]; omega)
  obtain ⟨_, e2⟩ := rd_at (xs := xs) (i := xs.length - 1 - i) (by omega) (by omega)
  rw [e1, e2, List.getElem_reverse]
  congr 1
  omega
theorem rd_set {xs : List Int} {i j v : Int} (h0 : 0 ≤ i) (h1 : i < xs.length) (hj0 : 0 ≤ j) (hj : j < xs.length) : rd (xs.set i.toNat v) j = if j = i then v else rd xs j := by
  obtain ⟨_, e1⟩ := rd_at (xs := xs.set i.toNat v) (i := j) hj0 (by rw [List.length_set]; omega)
  obtain ⟨_, e2⟩ := rd_at (xs := xs) (i := j) hj0 hj
  rw [e1, e2, List.getElem_set]
  by_cases e : j = i
  · subst e; simp
  · rw [if_neg (by omega), if_neg e]
def okB (xs : List Int) : Bool := xs.all fun x => decide (0 ≤ x ∧ x ≤ 1000)
theorem okB_rd {xs : List Int} (h : okB xs = true) {i : Int} (h0 : 0 ≤ i) (h1 : i < xs.length) : 0 ≤ rd xs i ∧ rd xs i ≤ 1000 := by
  unfold okB at h
  rw [List.all_eq_true] at h
  simpa using h _ (rd_mem h0 h1)
theorem okB_of {xs : List Int} (h : ∀ i : Int, 0 ≤ i → i < xs.length → 0 ≤ rd xs i ∧ rd xs i ≤ 1000) : okB xs = true := by
  unfold okB
  rw [List.all_eq_true]
  intro x hx
  obtain ⟨i, h0, h1, e⟩ := mem_rd hx
  have := h i h0 h1
  rw [e] at this
  simpa using this
theorem okB_not {xs : List Int} (h : okB xs = false) : ∃ i : Int, 0 ≤ i ∧ i < xs.length ∧ ¬ (0 ≤ rd xs i ∧ rd xs i ≤ 1000) := by
  by_cases q : ∃ i : Int, 0 ≤ i ∧ i < xs.length ∧ ¬ (0 ≤ rd xs i ∧ rd xs i ≤ 1000)
  · exact q
  · have : okB xs = true := okB_of fun i h0 h1 => Classical.byContradiction fun c => q ⟨i, h0, h1, c⟩
    rw [this] at h; cases h
def chk (xs : List Int) : Int := if 1 ≤ xs.length ∧ xs.length ≤ 64 then (if okB xs = true then 0 else 6) else 1
theorem min0 (xs : List Int) (hl : xs.length ≤ 64) : ∀ (m : Nat) (i acc : Int) (k : Nat), 0 ≤ i → i + m = xs.length → m < k →
    ∃ r, slices_Min_int_int.l0 k xs acc i = some r ∧ (r < 0 ↔ acc < 0 ∨ ∃ j, i ≤ j ∧ j < xs.length ∧ rd xs j < 0) := by
  intro m
  induction m with
  | zero =>
    intro i acc k h0 hm hk
    obtain ⟨k, rfl⟩ : ∃ q, k = q + 1 := ⟨k - 1, by omega⟩
    simp only [slices_Min_int_int.l0]
    rw [if_neg (by omega)]
    refine ⟨acc, rfl, fun h => .inl h, ?_⟩
    rintro (h | ⟨j, h1, h2, _⟩)
    · exact h
    · omega
  | succ m ih =>
    intro i acc k h0 hm hk
    obtain ⟨k, rfl⟩ : ∃ q, k = q + 1 := ⟨k - 1, by omega⟩
    simp only [slices_Min_int_int.l0]
    rw [if_pos (by omega), if_pos h0, wr (x := i + 1) (by omega)]
    obtain ⟨r, h1, h2⟩ := ih (i + 1) (mn acc (rd xs i)) k (by omega) (by omega) (by omega)
    refine ⟨r, h1, h2.trans ⟨?_, ?_⟩⟩
    · rintro (h | ⟨j, q1, q2, q3⟩)
      · unfold mn at h
        split at h
        · exact .inr ⟨i, by omega, by omega, h⟩
        · exact .inl h
      · exact .inr ⟨j, by omega, q2, q3⟩
    · rintro (h | ⟨j, q1, q2, q3⟩)
      · left; unfold mn; split <;> omega
      · by_cases e : j = i
        · subst e; left; unfold mn; split <;> omega
        · exact .inr ⟨j, by omega, q2, q3⟩
theorem max0 (xs : List Int) (hl : xs.length ≤ 64) : ∀ (m : Nat) (i acc : Int) (k : Nat), 0 ≤ i → i + m = xs.length → m < k →
    ∃ r, slices_Max_int_int.l0 k xs acc i = some r ∧ (r > 1000 ↔ acc > 1000 ∨ ∃ j, i ≤ j ∧ j < xs.length ∧ rd xs j > 1000) := by
  intro m
  induction m with
  | zero =>
    intro i acc k h0 hm hk
    obtain ⟨k, rfl⟩ : ∃ q, k = q + 1 := ⟨k - 1, by omega⟩
    simp only [slices_Max_int_int.l0]
    rw [if_neg (by omega)]
    refine ⟨acc, rfl, fun h => .inl h, ?_⟩
    rintro (h | ⟨j, h1, h2, _⟩)
    · exact h
    · omega
  | succ m ih =>
    intro i acc k h0 hm hk
    obtain ⟨k, rfl⟩ : ∃ q, k = q + 1 := ⟨k - 1, by omega⟩
    simp only [slices_Max_int_int.l0]
    rw [if_pos (by omega), if_pos h0, wr (x := i + 1) (by omega)]
    obtain ⟨r, h1, h2⟩ := ih (i + 1) (mx acc (rd xs i)) k (by omega) (by omega) (by omega)
    refine ⟨r, h1, h2.trans ⟨?_, ?_⟩⟩
    · rintro (h | ⟨j, q1, q2, q3⟩)
      · unfold mx at h
        split at h
        · exact .inr ⟨i, by omega, by omega, h⟩
        · exact .inl h
      · exact .inr ⟨j, by omega, q2, q3⟩
    · rintro (h | ⟨j, q1, q2, q3⟩)
      · left; unfold mx; split <;> omega
      · by_cases e : j = i
        · subst e; left; unfold mx; split <;> omega
        · exact .inr ⟨j, by omega, q2, q3⟩
theorem check_f (xs : List Int) (j : Nat) : c_Check.f (100 + j) xs = some (chk xs) := by
  unfold c_Check.f chk
  rw [show 100 + j = 99 + j + 1 by omega]
  simp only [c_Check.j0]
  by_cases h1 : (xs.length : Int) < 1
  · simp only [if_pos h1, if_true]
    rw [if_neg (by omega)]
  · rw [if_neg h1]
    by_cases h2 : (xs.length : Int) > 64
    · rw [if_pos (by simpa using h2), if_neg (by omega)]
    · rw [if_neg (by simpa using h2), if_pos (by omega)]
      unfold slices_Min_int_int.f slices_Max_int_int.f
      rw [if_neg h1, if_neg h1, if_pos (by omega), if_pos (by omega)]
      obtain ⟨a, e1, p1⟩ := min0 xs (by omega) (xs.length - 1) 1 (rd xs 0) (99 + j) (by omega) (by omega) (by omega)
      obtain ⟨b, e2, p2⟩ := max0 xs (by omega) (xs.length - 1) 1 (rd xs 0) (99 + j) (by omega) (by omega) (by omega)
      rw [e1, e2]
      simp only [Option.bind_some]
      by_cases ok : okB xs = true
      · have z : ∀ i : Int, 0 ≤ i → i < xs.length → 0 ≤ rd xs i ∧ rd xs i ≤ 1000 := fun i => okB_rd ok
        have n1 : ¬ a < 0 := by
          intro h
          rcases p1.1 h with h | ⟨j, q1, q2, q3⟩
          · have := z 0 (by omega) (by omega); omega
          · have := z j (by omega) (by omega); omega
        have n2 : ¬ b > 1000 := by
          intro h
          rcases p2.1 h with h | ⟨j, q1, q2, q3⟩
          · have := z 0 (by omega) (by omega); omega
          · have := z j (by omega) (by omega); omega
        rw [if_neg n1, if_neg n2, if_pos ok]
      · obtain ⟨i, q1, q2, q3⟩ := okB_not (by simpa using ok)
        rw [if_neg ok]
        by_cases n1 : a < 0
        · rw [if_pos n1]
        · rw [if_neg n1]
          have n2 : b > 1000 := by
            apply p2.2
            by_cases e : i = 0
            · subst e
              left
              by_cases u : rd xs 0 < 0
              · exact absurd (p1.2 (.inl u)) n1
              · omega
            · right
              refine ⟨i, by omega, by omega, ?_⟩
              by_cases u : rd xs i < 0
              · exact absurd (p1.2 (.inr ⟨i, by omega, by omega, u⟩)) n1
              · omega
          rw [if_pos n2]

theorem clone_f (xs : List Int) (hl : xs.length ≤ 1000) : slices_Clone_int_int.f xs = some xs := by
  unfold slices_Clone_int_int.f
  simp only [Option.bind_some, List.length_nil, List.nil_append]
  rw [if_pos (by omega)]
theorem rev0 (xs : List Int) (hl : xs.length ≤ 1000) : ∀ (m : Nat) (i : Int) (ys : List Int) (k : Nat), 0 ≤ i → 2 * i + m = xs.length + 1 ∨ (m = 0 ∧ 2 * i = xs.length + 1) → m < k → ys.length = xs.length →
    (∀ j : Int, 0 ≤ j → j < xs.length → rd ys j = if j < i ∨ j > xs.length - 1 - i then rd xs (xs.length - 1 - j) else rd xs j) → slices_Reverse_int_int.l0 k ys i (xs.length - 1 - i) = some xs.reverse := by
  intro m
  induction m using Nat.strongRecOn with
  | _ m ih =>
    intro i ys k h0 hm hk hy hinv
    obtain ⟨k, rfl⟩ : ∃ q, k = q + 1 := ⟨k - 1, by omega⟩
    simp only [slices_Reverse_int_int.l0]
    by_cases c : i < xs.length - 1 - i
    · have c1 : (0 : Int) ≤ xs.length - 1 - i := by omega
      have c2 : (xs.length : Int) - 1 - i < (ys.length : Int) := by omega
      have c3 : i < (ys.length : Int) := by omega
      simp only [c, c1, c2, c3, h0, if_true]
      rw [wr (x := i + 1) (by omega), wr (x := (xs.length : Int) - 1 - i - 1) (by omega), show (xs.length : Int) - 1 - i - 1 = xs.length - 1 - (i + 1) by omega]
      refine ih (m - 2) (by omega) (i + 1) _ k (by omega) (by omega) (by omega) (by simp [hy]) ?_
      intro j hj0 hj1
      rw [rd_set c1 (by rw [List.length_set]; exact c2) hj0 (by rw [List.length_set]; omega), rd_set h0 c3 hj0 (by omega)]
      have e1 := hinv i h0 (by omega)
      have e2 := hinv (xs.length - 1 - i) c1 (by omega)
      have e3 := hinv j hj0 hj1
      rw [if_neg (by omega)] at e1 e2
      by_cases q1 : j = xs.length - 1 - i
      · subst q1
        rw [if_pos rfl, if_pos (by omega), e1, show (xs.length : Int) - 1 - (xs.length - 1 - i) = i by omega]
      · rw [if_neg q1]
        by_cases q2 : j = i
        · subst q2
          rw [if_pos rfl, if_pos (by omega), e2]
        · rw [if_neg q2, e3]
          by_cases q3 : j < i ∨ j > xs.length - 1 - i
          · rw [if_pos q3, if_pos (by omega)]
          · rw [if_neg q3, if_neg (by omega)]
    · rw [if_neg c]
      congr 1
      apply rd_ext (by rw [hy, List.length_reverse])
      intro j hj0 hj1
      rw [hinv j hj0 (by omega), rd_reverse hj0 (by omega)]
      by_cases q3 : j < i ∨ j > xs.length - 1 - i
      · rw [if_pos q3]
      · rw [if_neg q3, show j = xs.length - 1 - j by omega, show (xs.length : Int) - 1 - (xs.length - 1 - j) = j by omega]
        congr 1
        omega
theorem mirror_f (xs : List Int) (hl : xs.length ≤ 90) (j : Nat) : c_mirror.f (100 + j) xs = some xs.reverse := by
  unfold c_mirror.f slices_Reverse_int_int.f
  rw [clone_f xs (by omega)]
  simp only [Option.bind_some]
  rw [wr (by omega)]
  have := rev0 xs (by omega) (xs.length + 1) 0 xs (100 + j) (by omega) (by omega) (by omega) rfl (fun j h0 h1 => by rw [if_neg (by omega)])
  rw [show (xs.length : Int) - 1 - 0 = xs.length - 1 by omega] at this
  rw [this]
  rfl
theorem Mirror_f (xs : List Int) (j : Nat) : c_Mirror.f (100 + j) xs = some (if chk xs = 0 then (xs.reverse, 0) else ([], chk xs)) := by
  unfold c_Mirror.f
  rw [check_f]
  simp only [Option.bind_some]
  by_cases h : chk xs = 0
  · have hl : xs.length ≤ 64 := by unfold chk at h; split at h <;> omega
    rw [if_pos h, if_pos h, mirror_f xs (by omega)]
    rfl
  · rw [if_neg h, if_neg h]
structure Good (a : List Int) : Prop where
  lo : 1 ≤ a.length
  hi : a.length ≤ 64
  ok : okB a = true
theorem good_iff (a : List Int) : chk a = 0 ↔ Good a := by
  unfold chk
  constructor
  · intro h
    split at h
    · next q =>
      split at h
      · next p => exact ⟨q.1, q.2, p⟩
      · omega
    · omega
  · rintro ⟨h1, h2, h3⟩
    rw [if_pos ⟨h1, h2⟩, if_pos h3]
def two (a b : List Int) : Int := if chk a = 0 then (if chk b = 0 then (if a.length = b.length then 0 else 1) else chk b) else chk a
theorem two_iff (a b : List Int) : two a b = 0 ↔ Good a ∧ Good b ∧ a.length = b.length := by
  unfold two
  by_cases h1 : chk a = 0
  · rw [if_pos h1]
    by_cases h2 : chk b = 0
    · rw [if_pos h2]
      have g1 := (good_iff a).1 h1
      have g2 := (good_iff b).1 h2
      constructor
      · intro h; refine ⟨g1, g2, ?_⟩; split at h <;> omega
      · rintro ⟨_, _, h⟩; rw [if_pos h]
    · rw [if_neg h2]
      exact ⟨fun h => absurd h h2, fun h => absurd ((good_iff b).2 h.2.1) h2⟩
  · rw [if_neg h1]
    exact ⟨fun h => absurd h h1, fun h => absurd ((good_iff a).2 h.1) h1⟩
theorem both_f (a b : List Int) (j : Nat) : c_both.f (100 + j) a b = some (two a b) := by
  unfold c_both.f two
  rw [check_f, check_f]
  simp only [Option.bind_some]
  by_cases h1 : chk a = 0
  · rw [if_pos h1, if_pos h1]
    by_cases h2 : chk b = 0
    · rw [if_pos h2, if_pos h2]
      by_cases h3 : a.length = b.length
      · rw [if_pos h3, if_pos (by omega)]
      · rw [if_neg h3, if_neg (by omega)]
    · rw [if_neg h2, if_neg h2]
  · rw [if_neg h1, if_neg h1]
def ab (x y : Int) : Int := if x > y then x - y else y - x
def mo (a : List Int) (b : Int) : List Int → Int → Int → Int → Int × Int
  | [], _, s, n => (s, n)
  | y :: ys, i, s, n => if 0 ≤ i + b ∧ i + b < a.length then mo a b ys (i + 1) (s + ab (rd a (i + b)) y) (n + 1) else mo a b ys (i + 1) s n
theorem okB_cons {y : Int} {ys : List Int} (h : okB (y :: ys) = true) : (0 ≤ y ∧ y ≤ 1000) ∧ okB ys = true := by
  unfold okB at *
  simp only [List.all_cons, Bool.and_eq_true, decide_eq_true_eq] at h
  exact h
theorem mm_mo (a : List Int) (ha : Good a) (b : Int) (hb : -64 ≤ b ∧ b ≤ 64) : ∀ (ys : List Int) (i s n : Int), okB ys = true → 0 ≤ i → i + ys.length ≤ 64 → 0 ≤ s → s ≤ 1000 * i → 0 ≤ n → n ≤ i →
    mm a b ys i s n = mo a b ys i s n
  | [], i, s, n, _, _, _, _, _, _, _ => rfl
  | y :: ys, i, s, n, hy, h0, hi, hs0, hs, hn0, hn => by
    obtain ⟨hy1, hy2⟩ := okB_cons hy
    simp only [List.length_cons] at hi
    unfold mm mo
    rw [wr (x := i + b) (by omega)]
    by_cases h : 0 ≤ i + b ∧ i + b < a.length
    · rw [if_pos h, if_pos h]
      have hr := okB_rd ha.ok h.1 h.2
      have e : mx (wrap64 (rd a (i + b) - y)) (wrap64 (y - rd a (i + b))) = ab (rd a (i + b)) y := by
        rw [wr (by omega), wr (by omega)]; unfold mx ab; split <;> split <;> omega
      have hab : 0 ≤ ab (rd a (i + b)) y ∧ ab (rd a (i + b)) y ≤ 1000 := by unfold ab; split <;> omega
      rw [e, wr (by omega), wr (by omega)]
      exact mm_mo a ha b hb ys _ _ _ hy2 (by omega) (by omega) (by omega) (by omega) (by omega) (by omega)
    · rw [if_neg h, if_neg h]
      exact mm_mo a ha b hb ys _ _ _ hy2 (by omega) (by omega) (by omega) (by omega) (by omega) (by omega)
theorem mismatch_f {a b : List Int} (ha : Good a) (hb : Good b) {d : Int} (h : -64 ≤ d ∧ d ≤ 64) : c_mismatch.f a b d = some (mo a d b 0 0 0) := by
  unfold c_mismatch.f
  rw [mm_mo a ha d h b 0 0 0 hb.ok (by omega) (by have := hb.hi; omega) (by omega) (by omega) (by omega) (by omega)]
theorem Mismatch_f (a b : List Int) (j : Nat) : c_Mismatch.f (100 + j) a b = some (if two a b = 0 then ((mo a 0 b 0 0 0).1, 0) else (0, two a b)) := by
  unfold c_Mismatch.f
  rw [both_f]
  simp only [Option.bind_some]
  by_cases h : two a b = 0
  · obtain ⟨ha, hb, hl⟩ := (two_iff a b).1 h
    rw [if_pos h, if_pos h, mismatch_f ha hb (by omega)]
    rfl
  · rw [if_neg h, if_neg h]
theorem drop_rd {xs : List Int} {i : Int} (h0 : 0 ≤ i) (h1 : i < xs.length) : xs.drop i.toNat = rd xs i :: xs.drop (i + 1).toNat := by
  obtain ⟨h, e⟩ := rd_at h0 h1
  rw [e, show (i + 1).toNat = i.toNat + 1 by omega]
  exact List.drop_eq_getElem_cons h
theorem drop_end {xs : List Int} {i : Int} (h1 : xs.length ≤ i) : xs.drop i.toNat = [] := List.drop_eq_nil_of_le (by omega)
theorem mo_cons (a : List Int) (b y : Int) (ys : List Int) (i s n : Int) : mo a b (y :: ys) i s n = if 0 ≤ i + b ∧ i + b < a.length then mo a b ys (i + 1) (s + ab (rd a (i + b)) y) (n + 1) else mo a b ys (i + 1) s n := rfl
theorem rcheck0 (xs : List Int) (hl : xs.length ≤ 64) : ∀ (m : Nat) (i : Int) (k : Nat), 0 ≤ i → i + m = xs.length → m < k →
    rg_Check.l0 k xs i = some (if okB (xs.drop i.toNat) = true then 0 else 6) := by
  intro m
  induction m with
  | zero =>
    intro i k h0 hm hk
    obtain ⟨k, rfl⟩ : ∃ q, k = q + 1 := ⟨k - 1, by omega⟩
    simp only [rg_Check.l0]
    rw [if_neg (by omega), drop_end (by omega)]
    rfl
  | succ m ih =>
    intro i k h0 hm hk
    obtain ⟨k, rfl⟩ : ∃ q, k = q + 1 := ⟨k - 1, by omega⟩
    simp only [rg_Check.l0]
    rw [if_pos (by omega), if_pos h0, drop_rd h0 (by omega), wr (by omega)]
    have e : okB (rd xs i :: xs.drop (i + 1).toNat) = (decide (0 ≤ rd xs i ∧ rd xs i ≤ 1000) && okB (xs.drop (i + 1).toNat)) := by unfold okB; rfl
    rw [e]
    by_cases h1 : rd xs i < 0
    · rw [if_pos h1, decide_eq_false (by omega)]; rfl
    · rw [if_neg h1]
      by_cases h2 : rd xs i > 1000
      · rw [if_pos h2, decide_eq_false (by omega)]; rfl
      · rw [if_neg h2, decide_eq_true (by omega), Bool.true_and, ih (i + 1) k (by omega) (by omega) (by omega)]
theorem rcheck_f (xs : List Int) (j : Nat) : rg_Check.f (100 + j) xs = some (chk xs) := by
  unfold rg_Check.f chk
  rw [show 100 + j = 99 + j + 1 by omega]
  simp only [rg_Check.j0]
  by_cases h1 : (xs.length : Int) < 1
  · simp only [if_pos h1, if_true]
    rw [if_neg (by omega)]
  · rw [if_neg h1]
    by_cases h2 : (xs.length : Int) > 64
    · rw [if_pos (by simpa using h2), if_neg (by omega)]
    · rw [if_neg (by simpa using h2), if_pos (by omega), rcheck0 xs (by omega) xs.length 0 _ (by omega) (by omega) (by omega)]
      rfl
theorem ab_bd {x y : Int} (hx : 0 ≤ x ∧ x ≤ 1000) (hy : 0 ≤ y ∧ y ≤ 1000) : 0 ≤ ab x y ∧ ab x y ≤ 1000 := by unfold ab; split <;> omega
theorem kj {k : Nat} (n : Nat) (h : n ≤ k) : ∃ j, k = n + j := Nat.exists_eq_add_of_le h
theorem check_k (xs : List Int) {k : Nat} (hk : 100 ≤ k) : c_Check.f k xs = some (chk xs) := by obtain ⟨j, rfl⟩ := kj _ hk; exact check_f xs j
theorem Mirror_k (xs : List Int) {k : Nat} (hk : 100 ≤ k) : c_Mirror.f k xs = some (if chk xs = 0 then (xs.reverse, 0) else ([], chk xs)) := by obtain ⟨j, rfl⟩ := kj _ hk; exact Mirror_f xs j
theorem Mismatch_k (a b : List Int) {k : Nat} (hk : 100 ≤ k) : c_Mismatch.f k a b = some (if two a b = 0 then ((mo a 0 b 0 0 0).1, 0) else (0, two a b)) := by obtain ⟨j, rfl⟩ := kj _ hk; exact Mismatch_f a b j
theorem rcheck_k (xs : List Int) {k : Nat} (hk : 100 ≤ k) : rg_Check.f k xs = some (chk xs) := by obtain ⟨j, rfl⟩ := kj _ hk; exact rcheck_f xs j
def ds : List Int → List Int → Int
  | x :: xs, y :: ys => ab x y + ds xs ys
  | _, _ => 0
theorem mo_ds (a : List Int) : ∀ (ys : List Int) (i s n : Int), 0 ≤ i → i + ys.length ≤ a.length → (mo a 0 ys i s n).1 = s + ds (a.drop i.toNat) ys
  | [], i, s, n, _, _ => by
    simp only [mo]
    cases a.drop i.toNat <;> simp [ds]
  | y :: ys, i, s, n, h0, h1 => by
    simp only [List.length_cons] at h1
    rw [mo_cons, if_pos (by omega), mo_ds a ys _ _ _ (by omega) (by omega), drop_rd h0 (by omega), Int.add_zero]
    simp only [ds]
    omega
theorem mo_ds0 (a b : List Int) (h : a.length = b.length) : (mo a 0 b 0 0 0).1 = ds a b := by
  rw [mo_ds a b 0 0 0 (by omega) (by omega)]
  simp
theorem chk_reverse (a : List Int) : chk a.reverse = chk a := by
  unfold chk okB
  rw [List.length_reverse, List.all_reverse]
def face (f b : List Int) (t : Bool) : List Int × Int := if t = true then (if chk b = 0 then (b.reverse, 0) else ([], chk b)) else (if chk f = 0 then (f, 0) else ([], chk f))
theorem face_k (a0 a1 : ByteArray) (a2 a3 a4 a5 a6 a7 a8 a9 : Int) (f b : List Int) (t : Bool) {k : Nat} (hk : 100 ≤ k) : c_Face.f k a0 a1 a2 a3 a4 a5 a6 a7 a8 a9 f b t = some (face f b t) := by
  unfold c_Face.f face
  by_cases h : t = true
  · rw [if_pos h, if_pos h, Mirror_k _ hk]
    rfl
  · rw [if_neg h, if_neg h, check_k _ hk]
    simp only [Option.bind_some]
    by_cases z : chk f = 0
    · have g := ((good_iff f).1 z).hi
      rw [if_pos z, if_pos z, clone_f _ (by omega)]
      rfl
    · rw [if_neg z, if_neg z]
def btw (x y : List Int × Int) : Int × Int := if x.2 = 0 then (if y.2 = 0 then (if two x.1 y.1 = 0 then ((mo x.1 0 y.1 0 0 0).1, 0) else (0, two x.1 y.1)) else (0, y.2)) else (0, x.2)
theorem between_k (a0 a1 : ByteArray) (a2 a3 a4 a5 a6 a7 a8 a9 : Int) (f b : List Int) (t : Bool) (c0 c1 : ByteArray) (c2 c3 c4 c5 c6 c7 c8 c9 : Int) (f' b' : List Int) (t' : Bool) {k : Nat} (hk : 100 ≤ k) :
    c_Between.f k a0 a1 a2 a3 a4 a5 a6 a7 a8 a9 f b t c0 c1 c2 c3 c4 c5 c6 c7 c8 c9 f' b' t' = some (btw (face f b t) (face f' b' t')) := by
  unfold c_Between.f btw
  rw [face_k _ _ _ _ _ _ _ _ _ _ _ _ _ hk, face_k _ _ _ _ _ _ _ _ _ _ _ _ _ hk]
  simp only [Option.bind_some]
  by_cases h1 : (face f b t).2 = 0
  · rw [if_pos h1, if_pos h1]
    by_cases h2 : (face f' b' t').2 = 0
    · rw [if_pos h2, if_pos h2, Mismatch_k _ _ hk]
      rfl
    · rw [if_neg h2, if_neg h2]
  · rw [if_neg h1, if_neg h1]
theorem rdT_app (p s : List S62) (e : S62) : rd_T62 (p ++ e :: s) (p.length : Int) = e := by
  simp [rd_T62, List.getD_eq_getElem?_getD]
theorem len_app {α : Type} (p s : List α) (e : α) : ((p.length : Nat) : Int) < ((p ++ e :: s).length : Int) := by simp; omega
theorem app_snoc {α : Type} (p s : List α) (e : α) : p ++ e :: s = (p ++ [e]) ++ s := by simp
theorem len_snoc {α : Type} (p : List α) (e : α) : ((p ++ [e]).length : Int) = (p.length : Int) + 1 := by simp
theorem Ev.eq {α : Type} {g : Nat → Option α} {r s : α} (h : Ev g r) (e : r = s) : Ev g s := e ▸ h
theorem Ev.const {α : Type} {g : Nat → Option α} {r : α} (h : ∀ k, g k = some r) : Ev g r := ⟨0, fun k _ => h k⟩
theorem Ev.const1 {α : Type} {g : Nat → Option α} {r : α} (h : ∀ k, g (k + 1) = some r) : Ev g r := ⟨1, fun k hk => by
  obtain ⟨m, rfl⟩ : ∃ m, k = m + 1 := ⟨k - 1, by omega⟩
  exact h m⟩
theorem Ev.late {α : Type} {g : Nat → Option α} {r : α} (K : Nat) (h : ∀ k, K ≤ k → g k = some r) : Ev g r := ⟨K, h⟩
theorem rdm {l : List S62} {i : Int} (h0 : 0 ≤ i) (h1 : i < l.length) : rd_T62 l i ∈ l := by
  have h : i.toNat < l.length := by omega
  simp [rd_T62, List.getD_eq_getElem?_getD, List.getElem?_eq_getElem h]

def ckA : List S62 → Int
  | [] => 0
  | s :: r => if chk s.f5 = 0 then (if chk s.f6 = 0 then ckA r else chk s.f6) else chk s.f5
def eqL (n : Int) (s : S62) : Bool := decide ((s.f5.length : Int) = n) && decide ((s.f6.length : Int) = n)
def ckB (l s : List S62) : Int := if s.all (eqL (rd_T62 l 0).f5.length) = true then 0 else 1
def ck (l : List S62) : Int := if (l.length : Int) > 64 then 7 else if (l.length : Int) = 0 then 1 else if ckA l = 0 then ckB l l else ckA l
theorem chk_ev (xs : List Int) : Ev (fun k => c_Check.f k xs) (chk xs) := Ev.late 100 fun k hk => check_k xs hk
theorem rchk_ev (xs : List Int) : Ev (fun k => rg_Check.f k xs) (chk xs) := Ev.late 100 fun k hk => rcheck_k xs hk
theorem check_1 (s : S62) (n : Int) : m_check_1.f s.f0 s.f1 s.f2 s.f3.f0.f0 s.f3.f0.f1 s.f3.f0.f2 s.f3.f1.f0 s.f3.f1.f1 s.f3.f1.f2 s.f4 s.f5 s.f6 n = some (!(eqL n s)) := by
  unfold m_check_1.f eqL
  by_cases h : (s.f5.length : Int) = n
  · rw [if_pos h]
    by_cases h2 : (s.f6.length : Int) = n <;> simp [h, h2]
  · rw [if_neg h]; simp [h]
theorem idx52 (n : Int) : ∀ (s p : List S62), (p ++ s).length ≤ 1000 → ∃ r, Ev (fun k => s_52_by_bookmatch_check_1.l0 k (p ++ s) ((p ++ s).length : Int) (p.length : Int) n) r ∧ (decide (r ≥ 0) = !(s.all (eqL n)))
  | [], p, hl => ⟨-1, Ev.const1 fun k => by simp only [s_52_by_bookmatch_check_1.l0]; rw [if_neg (by simp)], by simp⟩
  | e :: s, p, hl => by
    have hs : ∀ k, s_52_by_bookmatch_check_1.l0 (k + 1) (p ++ e :: s) ((p ++ e :: s).length : Int) (p.length : Int) n = if (!(eqL n e)) = true then some (p.length : Int) else s_52_by_bookmatch_check_1.l0 k (p ++ e :: s) ((p ++ e :: s).length : Int) (wrap64 ((p.length : Int) + 1)) n := fun k => by
      simp only [s_52_by_bookmatch_check_1.l0]
      rw [if_pos (len_app p s e), if_pos (by omega), if_pos (len_app p s e), rdT_app, check_1]
      rfl
    by_cases hb : eqL n e = true
    · have hw : wrap64 ((p.length : Int) + 1) = ((p ++ [e]).length : Int) := by rw [wr (by simp at hl; omega), len_snoc]
      obtain ⟨r, h, hr⟩ := idx52 n s (p ++ [e]) (by simpa using hl)
      rw [← app_snoc] at h
      refine ⟨r, Ev.step (fun k => ?_) h, by rw [hr]; simp [hb]⟩
      rw [hs, hb, if_neg (by simp), hw]
    · refine ⟨p.length, Ev.const1 fun k => ?_, by simp [hb]⟩
      rw [hs, if_pos (by simp [hb])]
theorem cont_ev (l : List S62) (n : Int) (hl : l.length ≤ 1000) : Ev (fun k => s_46_by_bookmatch_check_1.f k l n) (!(l.all (eqL n))) := by
  obtain ⟨r, h, hr⟩ := idx52 n l [] (by simpa using hl)
  unfold s_46_by_bookmatch_check_1.f
  refine Ev.bind (a := r) (f := fun k t => some (decide (t ≥ 0))) h ?_
  exact Ev.const fun k => by rw [hr]
theorem check0 (l : List S62) (h1 : 1 ≤ l.length) (h2 : l.length ≤ 64) : ∀ (s p : List S62), l = p ++ s → Ev (fun k => m_check.l0 k l l (l.length : Int) (p.length : Int)) (if ckA s = 0 then ckB l l else ckA s)
  | [], p, hp => by
    have hz : ¬ ((p.length : Int) < (l.length : Int)) := by rw [hp]; simp
    refine Ev.step (f := fun k => (s_46_by_bookmatch_check_1.f k l (((rd_T62 l 0).f5).length : Int)).bind fun t121 => (if t121 = true then (some 1) else (some 0))) (fun k => by
      simp only [m_check.l0]
      rw [if_neg hz, if_pos (by omega)]) ?_
    refine Ev.bind (f := fun k t => if t = true then some 1 else some 0) (cont_ev l _ (by omega)) (Ev.const fun k => ?_)
    simp only [ckA, ckB, if_true]
    cases l.all (eqL (rd_T62 l 0).f5.length) <;> simp
  | e :: s, p, hp => by
    have hz : (p.length : Int) < (l.length : Int) := by rw [hp]; exact len_app p s e
    have he : rd_T62 l (p.length : Int) = e := by rw [hp]; exact rdT_app p s e
    have hw : wrap64 ((p.length : Int) + 1) = ((p ++ [e]).length : Int) := by rw [wr (by omega), len_snoc]
    have ih := check0 l h1 h2 s (p ++ [e]) (by rw [hp, app_snoc])
    refine Ev.step (f := fun k => m_check.l1 k l l (l.length : Int) (p.length : Int) [e.f5, e.f6] 2 0) (fun k => by
      simp only [m_check.l0]
      rw [if_pos hz, if_pos (by omega), if_pos hz, he]
      rfl) ?_
    refine Ev.step (f := fun k => (c_Check.f k e.f5).bind fun t => if t = 0 then m_check.l1 k l l (l.length : Int) (p.length : Int) [e.f5, e.f6] 2 1 else some t) (fun k => by simp only [m_check.l1]; rw [if_pos (by omega), if_pos (by omega), if_pos (by simp), show wrap64 ((0 : Int) + 1) = 1 from by decide +kernel]; rfl) ?_
    refine Ev.bind (f := fun k t => if t = 0 then m_check.l1 k l l (l.length : Int) (p.length : Int) [e.f5, e.f6] 2 1 else some t) (chk_ev e.f5) ?_
    by_cases c1 : chk e.f5 = 0
    · simp only [ckA, c1, if_true]
      refine Ev.step (f := fun k => (c_Check.f k e.f6).bind fun t => if t = 0 then m_check.l1 k l l (l.length : Int) (p.length : Int) [e.f5, e.f6] 2 2 else some t) (fun k => by simp only [m_check.l1]; rw [if_pos (by omega), if_pos (by omega), if_pos (by simp), show wrap64 ((1 : Int) + 1) = 2 from by decide +kernel]; rfl) ?_
      refine Ev.bind (f := fun k t => if t = 0 then m_check.l1 k l l (l.length : Int) (p.length : Int) [e.f5, e.f6] 2 2 else some t) (chk_ev e.f6) ?_
      by_cases c2 : chk e.f6 = 0
      · simp only [c2, if_true]
        refine Ev.step (f := fun k => m_check.l0 k l l (l.length : Int) (wrap64 ((p.length : Int) + 1))) (fun k => by simp only [m_check.l1]; rw [if_neg (by omega)]) ?_
        rw [hw]; exact ih
      · simp only [if_neg c2]
        exact Ev.const fun k => rfl
    · simp only [ckA, if_neg c1]
      exact Ev.const fun k => rfl
theorem ck_ev (l : List S62) : Ev (fun k => m_check.f k l) (ck l) := by
  unfold m_check.f ck
  by_cases h1 : (l.length : Int) > 64
  · exact Ev.const fun k => by rw [if_pos h1, if_pos h1]
  · by_cases h2 : (l.length : Int) = 0
    · exact Ev.const fun k => by rw [if_neg h1, if_neg h1, if_pos h2, if_pos h2]
    · simp only [if_neg h1, if_neg h2]
      exact check0 l (by omega) (by omega) l [] rfl
theorem rcheckB (l : List S62) (h1 : 1 ≤ l.length) (h2 : l.length ≤ 64) : ∀ (s p : List S62), l = p ++ s → Ev (fun k => rf_Check.l1 k l (p.length : Int)) (ckB l s)
  | [], p, hp => Ev.const1 fun k => by
    simp only [rf_Check.l1]
    rw [if_neg (by rw [hp]; simp)]; rfl
  | e :: s, p, hp => by
    have hz : (p.length : Int) < (l.length : Int) := by rw [hp]; exact len_app p s e
    have he : rd_T62 l (p.length : Int) = e := by rw [hp]; exact rdT_app p s e
    have hw : wrap64 ((p.length : Int) + 1) = ((p ++ [e]).length : Int) := by rw [wr (by omega), len_snoc]
    have ih := rcheckB l h1 h2 s (p ++ [e]) (by rw [hp, app_snoc])
    have hs : ∀ k, rf_Check.l1 (k + 1) l (p.length : Int) = if (e.f5.length : Int) = ((rd_T62 l 0).f5.length : Int) then (if (e.f6.length : Int) = ((rd_T62 l 0).f5.length : Int) then rf_Check.l1 k l (wrap64 ((p.length : Int) + 1)) else some 1) else some 1 := fun k => by
      simp only [rf_Check.l1]
      rw [if_pos hz, if_pos (by omega), if_pos (by omega), he]
    by_cases c1 : (e.f5.length : Int) = ((rd_T62 l 0).f5.length : Int)
    · by_cases c2 : (e.f6.length : Int) = ((rd_T62 l 0).f5.length : Int)
      · refine Ev.step (f := fun k => rf_Check.l1 k l ((p ++ [e]).length : Int)) (fun k => by rw [hs, if_pos c1, if_pos c2, hw]) (Ev.eq ih ?_)
        simp [ckB, eqL, c1, c2]
      · refine Ev.const1 fun k => by rw [hs, if_pos c1, if_neg c2]; simp [ckB, eqL, c2]
    · refine Ev.const1 fun k => by rw [hs, if_neg c1]; simp [ckB, eqL, c1]
theorem rcheckA (l : List S62) (h1 : 1 ≤ l.length) (h2 : l.length ≤ 64) : ∀ (s p : List S62), l = p ++ s → Ev (fun k => rf_Check.l0 k l (p.length : Int)) (if ckA s = 0 then ckB l l else ckA s)
  | [], p, hp => by
    refine Ev.step (f := fun k => rf_Check.l1 k l 0) (fun k => by
      simp only [rf_Check.l0]
      rw [if_neg (by rw [hp]; simp)]) ?_
    simp only [ckA, if_true]
    exact rcheckB l h1 h2 l [] rfl
  | e :: s, p, hp => by
    have hz : (p.length : Int) < (l.length : Int) := by rw [hp]; exact len_app p s e
    have he : rd_T62 l (p.length : Int) = e := by rw [hp]; exact rdT_app p s e
    have hw : wrap64 ((p.length : Int) + 1) = ((p ++ [e]).length : Int) := by rw [wr (by omega), len_snoc]
    have ih := rcheckA l h1 h2 s (p ++ [e]) (by rw [hp, app_snoc])
    refine Ev.step (f := fun k => (rg_Check.f k e.f5).bind fun t => if t = 0 then ((rg_Check.f k e.f6).bind fun t => if t = 0 then rf_Check.l0 k l ((p ++ [e]).length : Int) else some t) else some t) (fun k => by
      simp only [rf_Check.l0]
      rw [if_pos hz, if_pos (by omega), he, hw]) ?_
    refine Ev.bind (f := fun k t => if t = 0 then ((rg_Check.f k e.f6).bind fun t => if t = 0 then rf_Check.l0 k l ((p ++ [e]).length : Int) else some t) else some t) (rchk_ev e.f5) ?_
    by_cases c1 : chk e.f5 = 0
    · simp only [ckA, c1, if_true]
      refine Ev.bind (f := fun k t => if t = 0 then rf_Check.l0 k l ((p ++ [e]).length : Int) else some t) (rchk_ev e.f6) ?_
      by_cases c2 : chk e.f6 = 0
      · simp only [c2, if_true]
        exact ih
      · simp only [if_neg c2]
        exact Ev.const fun k => rfl
    · simp only [ckA, if_neg c1]
      exact Ev.const fun k => rfl
theorem rck_ev (l : List S62) : Ev (fun k => rf_Check.f k l) (ck l) := by
  unfold rf_Check.f ck
  by_cases h1 : (l.length : Int) > 64
  · exact Ev.const fun k => by rw [if_pos h1, if_pos h1]
  · by_cases h2 : (l.length : Int) = 0
    · exact Ev.const fun k => by rw [if_neg h1, if_neg h1, if_pos h2, if_pos h2]
    · simp only [if_neg h1, if_neg h2]
      exact rcheckA l (by omega) (by omega) l [] rfl

structure Ok (l : List S62) : Prop where
  n1 : 1 ≤ l.length
  n2 : l.length ≤ 64
  g : ∀ s ∈ l, Good s.f5 ∧ Good s.f6 ∧ s.f5.length = (rd_T62 l 0).f5.length ∧ s.f6.length = (rd_T62 l 0).f5.length
theorem ckA_good : ∀ (l : List S62), ckA l = 0 → ∀ s ∈ l, Good s.f5 ∧ Good s.f6
  | e :: l, h, s, hs => by
    simp only [ckA] at h
    by_cases c1 : chk e.f5 = 0
    · rw [if_pos c1] at h
      by_cases c2 : chk e.f6 = 0
      · rw [if_pos c2] at h
        rcases List.mem_cons.1 hs with rfl | hs
        · exact ⟨(good_iff _).1 c1, (good_iff _).1 c2⟩
        · exact ckA_good l h s hs
      · rw [if_neg c2] at h; exact absurd h c2
    · rw [if_neg c1] at h; exact absurd h c1
theorem ok_of {l : List S62} (h : ck l = 0) : Ok l := by
  unfold ck at h
  by_cases h1 : (l.length : Int) > 64
  · rw [if_pos h1] at h; omega
  · rw [if_neg h1] at h
    by_cases h2 : (l.length : Int) = 0
    · rw [if_pos h2] at h; omega
    · rw [if_neg h2] at h
      by_cases h3 : ckA l = 0
      · rw [if_pos h3] at h
        unfold ckB at h
        by_cases h4 : l.all (eqL (rd_T62 l 0).f5.length) = true
        · refine ⟨by omega, by omega, fun s hs => ?_⟩
          have := List.all_eq_true.1 h4 s hs
          simp [eqL] at this
          exact ⟨(ckA_good l h3 s hs).1, (ckA_good l h3 s hs).2, by omega, by omega⟩
        · rw [if_neg h4] at h; omega
      · rw [if_neg h3] at h; exact absurd h h3
def cd (s : S62) (t : Bool) : List Int := if t = true then s.f6.reverse else s.f5
def J (l : List S62) (a : Int) (t : Bool) (b : Int) (u : Bool) : Int := ds (cd (rd_T62 l a) t) (cd (rd_T62 l b) u)
theorem good_rev {a : List Int} (h : Good a) : Good a.reverse := (good_iff _).1 (by rw [chk_reverse]; exact (good_iff _).2 h)
theorem cd_good {l : List S62} (h : Ok l) {i : Int} (h0 : 0 ≤ i) (h1 : i < l.length) (t : Bool) : Good (cd (rd_T62 l i) t) ∧ (cd (rd_T62 l i) t).length = (rd_T62 l 0).f5.length := by
  have g := h.g _ (rdm h0 h1)
  unfold cd
  split
  · exact ⟨good_rev g.2.1, by rw [List.length_reverse]; exact g.2.2.2⟩
  · exact ⟨g.1, g.2.2.1⟩
theorem ds_bd : ∀ (a b : List Int), okB a = true → okB b = true → 0 ≤ ds a b ∧ ds a b ≤ 1000 * a.length
  | x :: xs, y :: ys, ha, hb => by
    obtain ⟨hx, hxs⟩ := okB_cons ha
    obtain ⟨hy, hys⟩ := okB_cons hb
    have := ds_bd xs ys hxs hys
    have := ab_bd hx hy
    simp only [ds, List.length_cons]
    omega
  | [], [], _, _ => by simp [ds]
  | [], _ :: _, _, _ => by simp [ds]
  | _ :: _, [], _, _ => by simp [ds]; omega
theorem J_bd {l : List S62} (h : Ok l) {a b : Int} (a0 : 0 ≤ a) (a1 : a < l.length) (b0 : 0 ≤ b) (b1 : b < l.length) (t u : Bool) : 0 ≤ J l a t b u ∧ J l a t b u ≤ 64000 := by
  have ga := (cd_good h a0 a1 t).1
  have gb := (cd_good h b0 b1 u).1
  have := ds_bd _ _ ga.ok gb.ok
  have := ga.hi
  unfold J
  omega
theorem face_cd {s : S62} (h : Good s.f5) (h' : Good s.f6) (t : Bool) : face s.f5 s.f6 t = (cd s t, 0) := by
  unfold face cd
  rw [if_pos ((good_iff _).2 h), if_pos ((good_iff _).2 h')]
  split <;> rfl
theorem btw_ev {l : List S62} (h : Ok l) {a b : Int} (a0 : 0 ≤ a) (a1 : a < l.length) (b0 : 0 ≤ b) (b1 : b < l.length) (t u : Bool) : Ev (fun k => m_between.f k l a t b u) (J l a t b u) := by
  have ga := cd_good h a0 a1 t
  have gb := cd_good h b0 b1 u
  have sa := h.g _ (rdm a0 a1)
  have sb := h.g _ (rdm b0 b1)
  refine Ev.late 100 fun k hk => ?_
  unfold m_between.f
  rw [if_pos a0, if_pos a1, if_pos b0, if_pos b1, between_k _ _ _ _ _ _ _ _ _ _ _ _ _ _ _ _ _ _ _ _ _ _ _ _ _ _ hk, face_cd sa.1 sa.2.1, face_cd sb.1 sb.2.1]
  have ht : two (cd (rd_T62 l a) t) (cd (rd_T62 l b) u) = 0 := (two_iff _ _).2 ⟨ga.1, gb.1, by rw [ga.2, gb.2]⟩
  simp only [btw, if_true, ht, Option.bind_some, mo_ds0 _ _ (ga.2.trans gb.2.symm)]
  rfl
theorem rcode0 (a0_0 a0_1 : ByteArray) (a2 a3 a4 a5 a6 a7 a8 a9 : Int) (f b : List Int) (hb : b.length ≤ 1000) : ∀ (n : Nat) (acc : List Int), n ≤ b.length → acc = (b.drop n).reverse →
    Ev (fun k => rf_code.l0 k acc ((n : Int) - 1) a0_0 a0_1 a2 a3 a4 a5 a6 a7 a8 a9 f b) b.reverse
  | 0, acc, _, ha => Ev.const1 fun k => by
    simp only [rf_code.l0]
    rw [if_neg (by omega), ha]; simp
  | n + 1, acc, hn, ha => by
    have hrd : rd b (((n + 1 : Nat) : Int) - 1) = b[n]'(by omega) := by
      have : (((n + 1 : Nat) : Int) - 1).toNat = n := by omega
      simp [rd, this, List.getD_eq_getElem?_getD, List.getElem?_eq_getElem (show n < b.length by omega)]
    have hl : acc.length < 17592186044416 := by rw [ha]; simp; omega
    have hd : b.drop n = b[n]'(by omega) :: b.drop (n + 1) := List.drop_eq_getElem_cons (by omega)
    refine Ev.step (f := fun k => rf_code.l0 k (acc ++ [b[n]'(by omega)]) ((n : Int) - 1) a0_0 a0_1 a2 a3 a4 a5 a6 a7 a8 a9 f b) (fun k => by
      simp only [rf_code.l0]
      rw [if_pos (by omega), if_pos (by omega), if_pos (by omega), if_pos hl, hrd, show wrap64 (((n + 1 : Nat) : Int) - 1 - 1) = (n : Int) - 1 from by rw [wr (by omega)]; omega]) ?_
    exact rcode0 a0_0 a0_1 a2 a3 a4 a5 a6 a7 a8 a9 f b hb n _ (by omega) (by rw [hd, List.reverse_cons, ha])
theorem rcode_ev (s : S62) (t : Bool) (hb : s.f6.length ≤ 1000) : Ev (fun k => rf_code.f k s.f0 s.f1 s.f2 s.f3.f0.f0 s.f3.f0.f1 s.f3.f0.f2 s.f3.f1.f0 s.f3.f1.f1 s.f3.f1.f2 s.f4 s.f5 s.f6 t) (cd s t) := by
  unfold rf_code.f cd
  by_cases h : t = true
  · simp only [if_pos h]
    rw [wr (by omega)]
    exact rcode0 _ _ _ _ _ _ _ _ _ _ _ _ hb _ _ (Nat.le_refl _) (by simp)
  · simp only [if_neg h]
    exact Ev.const fun k => rfl
theorem rjoint0 {a b : List Int} (ha : Good a) (hb : Good b) (hl : a.length = b.length) : ∀ (m : Nat) (i s : Int), 0 ≤ i → i + m = a.length → 0 ≤ s → s ≤ 1000 * i → Ev (fun k => rf_Joint.l0 k a b s i) (s + ds (a.drop i.toNat) (b.drop i.toNat))
  | 0, i, s, h0, h1, h2, h3 => Ev.const1 fun k => by
    simp only [rf_Joint.l0]
    rw [if_neg (by omega), drop_end (by omega), drop_end (by omega)]
    simp [ds]
  | m + 1, i, s, h0, h1, h2, h3 => by
    have hh := ha.hi
    have ra := okB_rd ha.ok h0 (by omega)
    have rb := okB_rd hb.ok h0 (by omega)
    have hab := ab_bd ra rb
    have hx : mx (wrap64 (rd a i - rd b i)) (wrap64 (-(wrap64 (rd a i - rd b i)))) = ab (rd a i) (rd b i) := by
      rw [wr (x := rd a i - rd b i) (by omega), wr (by omega)]
      unfold mx ab
      grind
    have ih := rjoint0 ha hb hl m (i + 1) (s + ab (rd a i) (rd b i)) (by omega) (by omega) (by omega) (by omega)
    refine Ev.step (f := fun k => rf_Joint.l0 k a b (s + ab (rd a i) (rd b i)) (i + 1)) (fun k => by
      simp only [rf_Joint.l0]
      rw [if_pos (by omega), if_pos h0, if_pos (by omega), hx, wr (x := i + 1) (by omega), wr (by omega)]) (Ev.eq ih ?_)
    rw [drop_rd h0 (by omega), drop_rd (xs := b) h0 (by omega)]
    simp only [ds]
    omega
theorem rjoint_ev {l : List S62} (h : Ok l) {a b : Int} (a0 : 0 ≤ a) (a1 : a < l.length) (b0 : 0 ≤ b) (b1 : b < l.length) (t u : Bool) : Ev (fun k => rf_Joint.f k l a t b u) (J l a t b u) := by
  have ga := cd_good h a0 a1 t
  have gb := cd_good h b0 b1 u
  have sa := h.g _ (rdm a0 a1)
  have sb := h.g _ (rdm b0 b1)
  have la := sa.2.1.hi
  have lb := sb.2.1.hi
  unfold rf_Joint.f
  simp only [if_pos a0, if_pos a1, if_pos b0, if_pos b1]
  refine Ev.bind (f := fun k t402 => (rf_code.f k ((rd_T62 l b).f0) ((rd_T62 l b).f1) ((rd_T62 l b).f2) ((rd_T62 l b).f3.f0.f0) ((rd_T62 l b).f3.f0.f1) ((rd_T62 l b).f3.f0.f2) ((rd_T62 l b).f3.f1.f0) ((rd_T62 l b).f3.f1.f1) ((rd_T62 l b).f3.f1.f2) ((rd_T62 l b).f4) ((rd_T62 l b).f5) ((rd_T62 l b).f6) u).bind fun t406 => (rf_Joint.l0 k t402 t406 0 0)) (rcode_ev (rd_T62 l a) t (by omega)) ?_
  refine Ev.bind (f := fun k t406 => (rf_Joint.l0 k _ t406 0 0)) (rcode_ev (rd_T62 l b) u (by omega)) ?_
  refine Ev.eq (rjoint0 ga.1 gb.1 (by rw [ga.2, gb.2]) (cd (rd_T62 l a) t).length 0 0 (by omega) (by omega) (by omega) (by omega)) ?_
  simp [J]

theorem way0 : m_way.f false = some 0 := rfl
theorem way1 : m_way.f true = some 1 := rfl
theorem i02 : (0 : Int) < 2 := by decide
theorem i12 : (1 : Int) < 2 := by decide
theorem i22 : ¬ (2 : Int) < 2 := by decide
theorem i10 : ¬ (1 : Int) = 0 := by decide
theorem w01 : wrap64 ((0 : Int) + 1) = 1 := by decide +kernel
theorem w11 : wrap64 ((1 : Int) + 1) = 2 := by decide +kernel
theorem a01 : (0 : Int) + 1 = 1 := rfl
theorem a11 : (1 : Int) + 1 = 2 := rfl
def sel (p : S51) (t : Bool) : Int := if t = true then p.f1 else p.f0
def upd (p : S51) (t : Bool) (m : Int) : S51 := if t = true then ⟨p.f0, m⟩ else ⟨m, p.f1⟩
theorem mn_min (a b : Int) : mn a b = min a b := by unfold mn; omega
theorem rd51_set {xs : List S51} {i j : Int} {v : S51} (h0 : 0 ≤ i) (h1 : i < xs.length) (hj0 : 0 ≤ j) : rd_T51 (xs.set i.toNat v) j = if j = i then v else rd_T51 xs j := by
  by_cases h : j = i
  · subst h
    have hl : j.toNat < xs.length := by omega
    simp [rd_T51, List.getD_eq_getElem?_getD, List.getElem?_set, hl]
  · have : ¬ i.toNat = j.toNat := by omega
    simp [rd_T51, List.getD_eq_getElem?_getD, List.getElem?_set, h, this]

def Lm (l : List S62) : Nat → Int → Bool → Int
  | 0, _, _ => 0
  | m + 1, i, t => min (J l i t (i + 1) false + Lm l m (i + 1) false) (J l i t (i + 1) true + Lm l m (i + 1) true)
theorem Lm_bd {l : List S62} (h : Ok l) : ∀ (m : Nat) (i : Int) (t : Bool), 0 ≤ i → i + m < l.length → 0 ≤ Lm l m i t ∧ Lm l m i t ≤ 64000 * m
  | 0, i, t, _, _ => by simp [Lm]
  | m + 1, i, t, h0, h1 => by
    have a := Lm_bd h m (i + 1) false (by omega) (by omega)
    have b := Lm_bd h m (i + 1) true (by omega) (by omega)
    have c := J_bd h h0 (by omega) (show 0 ≤ i + 1 by omega) (by omega) t false
    have d := J_bd h h0 (by omega) (show 0 ≤ i + 1 by omega) (by omega) t true
    simp only [Lm]
    omega

theorem least2 {l : List S62} (h : Ok l) (fr : Int) {out : List S51} (hn : out.length = l.length) {i : Int} (h0 : 0 ≤ i) (h1 : i + 1 < l.length) (t : Bool) (c : Int)
    (hb : ∀ u, 0 ≤ sel (rd_T51 out (i + 1)) u ∧ sel (rd_T51 out (i + 1)) u ≤ 6400000) {r : List S51}
    (hr : Ev (fun k => m_least.l1 k l fr (out.set i.toNat (upd (rd_T51 out i) t (min (J l i t (i + 1) false + sel (rd_T51 out (i + 1)) false) (J l i t (i + 1) true + sel (rd_T51 out (i + 1)) true)))) i (wrap64 (c + 1)) false true false true) r) :
    Ev (fun k => m_least.l2 k l fr out i t 9223372036854775807 c 0 false true false true false true) r := by
  have n2 := h.n2
  have w := wr (x := i + 1) (by omega)
  have j0 := J_bd h h0 (by omega) (show 0 ≤ i + 1 by omega) h1 t false
  have j1 := J_bd h h0 (by omega) (show 0 ≤ i + 1 by omega) h1 t true
  have b0 := hb false
  have b1 := hb true
  have g0 : 0 ≤ i + 1 := by omega
  have g1 : i + 1 < (out.length : Int) := by omega
  have g2 : i < (out.length : Int) := by omega
  refine Ev.step (f := fun k => (m_between.f k l i t (i + 1) false).bind fun a => m_least.l2 k l fr out i t (mn 9223372036854775807 (wrap64 (a + (rd_T51 out (i + 1)).f0))) c 1 false true false true false true) (fun k => by
    simp only [m_least.l2, w, way0, Option.bind_some, if_pos g0, if_pos g1, if_pos i02, if_true, a01]) ?_
  refine Ev.bind (f := fun k a => m_least.l2 k l fr out i t (mn 9223372036854775807 (wrap64 (a + (rd_T51 out (i + 1)).f0))) c 1 false true false true false true) (btw_ev h h0 (by omega) g0 h1 t false) ?_
  refine Ev.step (f := fun k => (m_between.f k l i t (i + 1) true).bind fun a => m_least.l2 k l fr out i t (mn (mn 9223372036854775807 (wrap64 (J l i t (i + 1) false + (rd_T51 out (i + 1)).f0))) (wrap64 (a + (rd_T51 out (i + 1)).f1))) c 2 false true false true false true) (fun k => by
    simp only [m_least.l2, w, way1, Option.bind_some, if_pos g0, if_pos g1, if_pos i12, if_neg i10, if_true, a11]) ?_
  refine Ev.bind (f := fun k a => m_least.l2 k l fr out i t (mn (mn 9223372036854775807 (wrap64 (J l i t (i + 1) false + (rd_T51 out (i + 1)).f0))) (wrap64 (a + (rd_T51 out (i + 1)).f1))) c 2 false true false true false true) (btw_ev h h0 (by omega) g0 h1 t true) ?_
  have e : mn (mn 9223372036854775807 (wrap64 (J l i t (i + 1) false + (rd_T51 out (i + 1)).f0))) (wrap64 (J l i t (i + 1) true + (rd_T51 out (i + 1)).f1)) = min (J l i t (i + 1) false + sel (rd_T51 out (i + 1)) false) (J l i t (i + 1) true + sel (rd_T51 out (i + 1)) true) := by
    simp only [sel] at b0 b1 ⊢
    rw [wr (by simp at b0; omega), wr (by simp at b1; omega), mn_min, mn_min]
    simp at b0 b1 ⊢
    omega
  rw [e]
  refine Ev.step (f := fun k => m_least.l1 k l fr (out.set i.toNat (upd (rd_T51 out i) t (min (J l i t (i + 1) false + sel (rd_T51 out (i + 1)) false) (J l i t (i + 1) true + sel (rd_T51 out (i + 1)) true)))) i (wrap64 (c + 1)) false true false true) (fun k => by
    simp only [m_least.l2, if_neg i22]
    cases t
    · simp only [way0, Option.bind_some, if_pos h0, if_pos g2, if_true, upd]; rfl
    · simp only [way1, Option.bind_some, if_pos h0, if_pos g2, if_true, if_neg i10, upd]) hr
def Tab (l : List S62) (e : Int) (out : List S51) (i : Int) : Prop := ∀ j : Int, i ≤ j → j < e → ∀ t, sel (rd_T51 out j) t = Lm l (e - 1 - j).toNat j t
theorem least0 {l : List S62} (h : Ok l) {fr e : Int} (hf : 0 ≤ fr) (he : e ≤ l.length) : ∀ (m : Nat) (i : Int) (out : List S51), i = fr + m - 1 → i + 2 ≤ e → out.length = l.length → Tab l e out (i + 1) →
    ∃ r, Ev (fun k => m_least.l0 k l fr out i false true) r ∧ r.length = l.length ∧ Tab l e r fr
  | 0, i, out, hi, h2, hn, ht => by
    refine ⟨out, Ev.const1 fun k => ?_, hn, ?_⟩
    · simp only [m_least.l0]
      rw [if_neg (by omega)]
    · rw [show fr = i + 1 by omega]; exact ht
  | m + 1, i, out, hi, h2, hn, ht => by
    have n2 := h.n2
    have hv : ∀ u, sel (rd_T51 out (i + 1)) u = Lm l (e - 1 - (i + 1)).toNat (i + 1) u := ht (i + 1) (by omega) (by omega)
    have hb : ∀ u, 0 ≤ sel (rd_T51 out (i + 1)) u ∧ sel (rd_T51 out (i + 1)) u ≤ 6400000 := fun u => by
      have := Lm_bd h (e - 1 - (i + 1)).toNat (i + 1) u (by omega) (by omega)
      rw [hv]; omega
    let v0 := min (J l i false (i + 1) false + sel (rd_T51 out (i + 1)) false) (J l i false (i + 1) true + sel (rd_T51 out (i + 1)) true)
    let v1 := min (J l i true (i + 1) false + sel (rd_T51 out (i + 1)) false) (J l i true (i + 1) true + sel (rd_T51 out (i + 1)) true)
    let o1 := out.set i.toNat (upd (rd_T51 out i) false v0)
    have ho1 : rd_T51 o1 (i + 1) = rd_T51 out (i + 1) := by
      show rd_T51 (out.set i.toNat _) (i + 1) = _
      rw [rd51_set (by omega) (by omega) (by omega), if_neg (by omega)]
    let o2 := o1.set i.toNat (upd (rd_T51 o1 i) true v1)
    have hn1 : o1.length = l.length := by simp [o1, hn]
    have hn2 : o2.length = l.length := by simp [o2, hn1]
    have ht2 : Tab l e o2 i := by
      intro j hj1 hj2 t
      by_cases hji : j = i
      · subst hji
        have e1 : rd_T51 o2 j = upd (upd (rd_T51 out j) false v0) true v1 := by
          show rd_T51 (o1.set j.toNat _) j = _
          rw [rd51_set (by omega) (by omega) (by omega), if_pos rfl]
          show upd (rd_T51 (out.set j.toNat _) j) true v1 = _
          rw [rd51_set (by omega) (by omega) (by omega), if_pos rfl]
        obtain ⟨q, hq⟩ : ∃ q, (e - 1 - j).toNat = q + 1 := ⟨(e - 1 - (j + 1)).toNat, by omega⟩
        have hq' : (e - 1 - (j + 1)).toNat = q := by omega
        rw [e1, hq]
        rw [hq'] at hv
        cases t
        · simp [sel, upd, Lm, v0, ← hv]
        · simp [sel, upd, Lm, v1, ← hv]
      · have e1 : rd_T51 o2 j = rd_T51 out j := by
          show rd_T51 (o1.set i.toNat _) j = _
          rw [rd51_set (by omega) (by omega) (by omega), if_neg hji]
          show rd_T51 (out.set i.toNat _) j = _
          rw [rd51_set (by omega) (by omega) (by omega), if_neg hji]
        rw [e1]
        exact ht j (by omega) hj2 t
    obtain ⟨r, hr, hrn, hrt⟩ := least0 h hf he m (i - 1) o2 (by omega) (by omega) hn2 (by rw [show i - 1 + 1 = i by omega]; exact ht2)
    refine ⟨r, ?_, hrn, hrt⟩
    refine Ev.step (f := fun k => m_least.l1 k l fr out i 0 false true false true) (fun k => by
      simp only [m_least.l0]
      rw [if_pos (by omega)]) ?_
    refine Ev.step (f := fun k => m_least.j2 k l fr out i false 0 false true false true) (fun k => by simp only [m_least.l1, if_pos i02, if_true]) ?_
    refine Ev.step (f := fun k => m_least.l2 k l fr out i false 9223372036854775807 0 0 false true false true false true) (fun k => rfl) ?_
    refine least2 h fr hn (by omega) (by omega) false 0 hb ?_
    rw [w01]
    refine Ev.step (f := fun k => m_least.j2 k l fr o1 i true 1 false true false true) (fun k => by simp only [m_least.l1, if_pos i12, if_neg i10, if_true]; rfl) ?_
    refine Ev.step (f := fun k => m_least.l2 k l fr o1 i true 9223372036854775807 1 0 false true false true false true) (fun k => rfl) ?_
    refine least2 h fr hn1 (by omega) (by omega) true 1 (by rw [ho1]; exact hb) ?_
    rw [w11, ho1]
    refine Ev.step (f := fun k => m_least.l0 k l fr o2 (i - 1) false true) (fun k => by simp only [m_least.l1, if_neg i22]; rw [wr (by omega)]) hr
theorem least_ev {l : List S62} (h : Ok l) {fr e : Int} (hf : 0 ≤ fr) (he : e ≤ l.length) (hfe : fr < e) : ∃ r, Ev (fun k => m_least.f k l fr e) r ∧ r.length = l.length ∧ Tab l e r fr := by
  have n2 := h.n2
  have hz : Tab l e (List.replicate l.length z51) (e - 1) := by
    intro j h1 h2 t
    have : j = e - 1 := by omega
    subst this
    have hl : (e - 1).toNat < l.length := by omega
    have hr : rd_T51 (List.replicate l.length z51) (e - 1) = z51 := by
      simp only [rd_T51, List.getD_eq_getElem?_getD, List.getElem?_replicate]
      split <;> rfl
    rw [hr, show (e - 1 - (e - 1)).toNat = 0 by omega]
    cases t <;> rfl
  obtain ⟨r, hr, h3, h4⟩ := least0 h hf he (e - 1 - fr).toNat (e - 2) (List.replicate l.length z51) (by omega) (by omega) (by simp) (by rw [show e - 2 + 1 = e - 1 by omega]; exact hz)
  refine ⟨r, ?_, h3, h4⟩
  unfold m_least.f
  simp only [if_pos (show (0 : Int) ≤ (l.length : Int) by omega), Int.toNat_natCast, if_pos (show l.length ≤ 17592186044416 by omega)]
  rw [wr (by omega)]
  exact hr

theorem rLeast0 {l : List S62} (h : Ok l) {i0 : Int} (hi0 : 0 ≤ i0) (T : Bool) : ∀ (m : Nat) (i : Int) (a b : Int), i = i0 + m - 1 → i + 2 ≤ l.length → a = Lm l (l.length - 1 - (i + 1)).toNat (i + 1) false → b = Lm l (l.length - 1 - (i + 1)).toNat (i + 1) true →
    Ev (fun k => rf_Least.l0 k l i0 T i a b) (Lm l (l.length - 1 - i0).toNat i0 T)
  | 0, i, a, b, hi, h2, ha, hb => Ev.const1 fun k => by
    simp only [rf_Least.l0]
    rw [if_neg (by omega), ha, hb, show i + 1 = i0 by omega]
    cases T <;> rfl
  | m + 1, i, a, b, hi, h2, ha, hb => by
    have n2 := h.n2
    have h0 : 0 ≤ i := by omega
    have w := wr (x := i + 1) (by omega)
    have ba := Lm_bd h (l.length - 1 - (i + 1)).toNat (i + 1) false (by omega) (by omega)
    have bb := Lm_bd h (l.length - 1 - (i + 1)).toNat (i + 1) true (by omega) (by omega)
    rw [← ha] at ba
    rw [← hb] at bb
    have jb := fun t u => J_bd h h0 (by omega) (show 0 ≤ i + 1 by omega) (by omega) t u
    have hm : ∀ t, mn (wrap64 (J l i t (i + 1) false + a)) (wrap64 (J l i t (i + 1) true + b)) = Lm l (l.length - 1 - i).toNat i t := fun t => by
      have := jb t false
      have := jb t true
      rw [wr (by omega), wr (by omega), mn_min, show (l.length - 1 - i).toNat = (l.length - 1 - (i + 1)).toNat + 1 by omega]
      simp only [Lm]
      rw [← ha, ← hb]
    have ih := rLeast0 h hi0 T m (i - 1) (Lm l (l.length - 1 - i).toNat i false) (Lm l (l.length - 1 - i).toNat i true) (by omega) (by omega) (by rw [show i - 1 + 1 = i by omega]) (by rw [show i - 1 + 1 = i by omega])
    have st : ∀ (c : Int) (t : Bool), (c == 1) = t → Ev (fun k => rf_Joint.f k l i (c == 1) (i + 1) false) (J l i t (i + 1) false) ∧ Ev (fun k => rf_Joint.f k l i (c == 1) (i + 1) true) (J l i t (i + 1) true) := fun c t hc => by
      rw [hc]
      exact ⟨rjoint_ev h h0 (by omega) (by omega) (by omega) t false, rjoint_ev h h0 (by omega) (by omega) (by omega) t true⟩
    refine Ev.step (f := fun k => rf_Least.l1 k l i0 T i 0 a b 0 0) (fun k => by
      simp only [rf_Least.l0]
      rw [if_pos (by omega)]) ?_
    refine Ev.step (f := fun k => (rf_Joint.f k l i ((0 : Int) == 1) (i + 1) false).bind fun t433 => (rf_Joint.f k l i ((0 : Int) == 1) (i + 1) true).bind fun t434 => rf_Least.l1 k l i0 T i 1 a b (mn (wrap64 (t433 + a)) (wrap64 (t434 + b))) 0) (fun k => by
      simp only [rf_Least.l1, w, if_pos i02, if_true, a01]) ?_
    refine Ev.bind (f := fun k t433 => (rf_Joint.f k l i ((0 : Int) == 1) (i + 1) true).bind fun t434 => rf_Least.l1 k l i0 T i 1 a b (mn (wrap64 (t433 + a)) (wrap64 (t434 + b))) 0) (st 0 false rfl).1 ?_
    refine Ev.bind (f := fun k t434 => rf_Least.l1 k l i0 T i 1 a b (mn (wrap64 (_ + a)) (wrap64 (t434 + b))) 0) (st 0 false rfl).2 ?_
    rw [hm false]
    refine Ev.step (f := fun k => (rf_Joint.f k l i ((1 : Int) == 1) (i + 1) false).bind fun t433 => (rf_Joint.f k l i ((1 : Int) == 1) (i + 1) true).bind fun t434 => rf_Least.l1 k l i0 T i 2 a b (Lm l (l.length - 1 - i).toNat i false) (mn (wrap64 (t433 + a)) (wrap64 (t434 + b)))) (fun k => by
      simp only [rf_Least.l1, w, if_pos i12, if_neg i10, if_true, a11]) ?_
    refine Ev.bind (f := fun k t433 => (rf_Joint.f k l i ((1 : Int) == 1) (i + 1) true).bind fun t434 => rf_Least.l1 k l i0 T i 2 a b (Lm l (l.length - 1 - i).toNat i false) (mn (wrap64 (t433 + a)) (wrap64 (t434 + b)))) (st 1 true rfl).1 ?_
    refine Ev.bind (f := fun k t434 => rf_Least.l1 k l i0 T i 2 a b (Lm l (l.length - 1 - i).toNat i false) (mn (wrap64 (_ + a)) (wrap64 (t434 + b)))) (st 1 true rfl).2 ?_
    rw [hm true]
    refine Ev.step (f := fun k => rf_Least.l0 k l i0 T (i - 1) (Lm l (l.length - 1 - i).toNat i false) (Lm l (l.length - 1 - i).toNat i true)) (fun k => by
      simp only [rf_Least.l1, if_neg i22]; rw [wr (by omega)]) ih
theorem rLeast_ev {l : List S62} (h : Ok l) {i : Int} (h0 : 0 ≤ i) (h1 : i < l.length) (t : Bool) : Ev (fun k => rf_Least.f k l i t) (Lm l (l.length - 1 - i).toNat i t) := by
  have n2 := h.n2
  unfold rf_Least.f
  rw [wr (by omega)]
  exact rLeast0 h h0 t (l.length - 1 - i).toNat (l.length - 2) 0 0 (by omega) (by omega) (by rw [show ((l.length : Int) - 1 - (l.length - 2 + 1)).toNat = 0 by omega]; rfl) (by rw [show ((l.length : Int) - 1 - (l.length - 2 + 1)).toNat = 0 by omega]; rfl)
theorem few0 (l : List S62) (hl : l.length ≤ 70) : ∀ (m : Nat) (i : Int), 0 ≤ i → i + m = l.length → ∃ b, Ev (fun k => rf_Few.l0 k l i) b
  | 0, i, h0, h1 => ⟨true, Ev.const1 fun k => by
    simp only [rf_Few.l0]
    rw [if_neg (by omega)]⟩
  | m + 1, i, h0, h1 => by
    obtain ⟨b, ih⟩ := few0 l hl m (i + 1) (by omega) (by omega)
    have hs : ∀ k, rf_Few.l0 (k + 1) l i = if (((rd_T62 l i).f5).length : Int) > 70 then some false else if (((rd_T62 l i).f6).length : Int) > 70 then some false else rf_Few.l0 k l (i + 1) := fun k => by
      simp only [rf_Few.l0]
      rw [if_pos (by omega), if_pos h0, wr (by omega)]
    by_cases q1 : (((rd_T62 l i).f5).length : Int) > 70
    · exact ⟨false, Ev.const1 fun k => by rw [hs, if_pos q1]⟩
    · by_cases q2 : (((rd_T62 l i).f6).length : Int) > 70
      · exact ⟨false, Ev.const1 fun k => by rw [hs, if_neg q1, if_pos q2]⟩
      · exact ⟨b, Ev.step (fun k => by rw [hs, if_neg q1, if_neg q2]) ih⟩
theorem few_ev (l : List S62) (n : Int) (hn : n ≤ 70) : ∃ b, Ev (fun k => rf_Few.f k l n) b ∧ (b = true → (l.length : Int) ≤ n ∨ 64 < (l.length : Int)) ∧ (b = true → l.length ≤ 70) := by
  unfold rf_Few.f
  by_cases h1 : (l.length : Int) > n
  · by_cases h2 : (l.length : Int) ≤ 64
    · exact ⟨false, Ev.const1 fun k => by rw [if_pos h1, if_pos h2]; rfl, by simp, by simp⟩
    · by_cases h3 : (l.length : Int) > 70
      · exact ⟨false, Ev.const1 fun k => by rw [if_pos h1, if_neg h2, decide_eq_true h3]; rfl, by simp, by simp⟩
      · obtain ⟨b, hb⟩ := few0 l (by omega) l.length 0 (by omega) (by omega)
        exact ⟨b, Ev.step (fun k => by rw [if_pos h1, if_neg h2, decide_eq_false h3]; rfl) hb, fun _ => by omega, fun _ => by omega⟩
  · by_cases h3 : (l.length : Int) > 70
    · omega
    · obtain ⟨b, hb⟩ := few0 l (by omega) l.length 0 (by omega) (by omega)
      exact ⟨b, Ev.step (fun k => by rw [if_neg h1, decide_eq_false h3]; rfl) hb, fun _ => by omega, fun _ => by omega⟩

theorem awake300 : lw_awake.f 300 = some true := by decide +kernel
theorem awake_ev : Ev (fun k => lw_awake.f k) true := Ev.of (fun k => lw_awake.mono k) awake300
theorem awk {α : Type} {g : Nat → Bool → Option α} {r : α} (h : Ev (fun k => g k true) r) : Ev (fun k => (lw_awake.f k).bind fun t => g k t) r := Ev.bind (f := fun k t => g k t) awake_ev h
theorem awk1 : Ev (fun k => (lw_awake.f k).bind fun t => (some t : Option Bool)) true := awk (g := fun k t => some t) (Ev.now true)
def okJ (l : List S62) (p : List S51) (i : Int) (t u : Bool) : Bool := !(decide (sel (rd_T51 p i) t ≥ -9223372036854775808 + J l i t (i + 1) u) && decide (sel (rd_T51 p i) t - J l i t (i + 1) u > sel (rd_T51 p (i + 1)) u))
def ok4 (l : List S62) (p : List S51) (i : Int) : Bool := okJ l p i false false && (okJ l p i false true && (okJ l p i true false && okJ l p i true true))
def loopB (l : List S62) (p : List S51) : Nat → Int → Bool
  | 0, _ => true
  | m + 1, i => ok4 l p i && loopB l p m (i + 1)
def pv0 (c : Int) (p : List S51) : Bool := !(decide ((rd_T51 p (p.length - 1)).f0 > 0) || (decide ((rd_T51 p (p.length - 1)).f1 > 0) || (decide (c > (rd_T51 p 0).f0) || decide (c > (rd_T51 p 0).f1))))
def pvs (l : List S62) (c : Int) (p : List S51) : Bool := decide (ck l = 0) && (decide ((p.length : Int) = l.length) && (pv0 c p && loopB l p (l.length - 1) 0))
def rng (p : List S51) : Prop := ∀ x ∈ p, (-9223372036854775808 ≤ x.f0 ∧ x.f0 ≤ 9223372036854775807) ∧ (-9223372036854775808 ≤ x.f1 ∧ x.f1 ≤ 9223372036854775807)
theorem rdm51 {l : List S51} {i : Int} (h0 : 0 ≤ i) (h1 : i < l.length) : rd_T51 l i ∈ l := by
  have h : i.toNat < l.length := by omega
  simp [rd_T51, List.getD_eq_getElem?_getD, List.getElem?_eq_getElem h]
theorem rng_sel {p : List S51} (h : rng p) {i : Int} (h0 : 0 ≤ i) (h1 : i < p.length) (t : Bool) : -9223372036854775808 ≤ sel (rd_T51 p i) t ∧ sel (rd_T51 p i) t ≤ 9223372036854775807 := by
  have := h _ (rdm51 h0 h1)
  cases t
  · exact this.1
  · exact this.2
theorem proves6 {l : List S62} (h : Ok l) {p : List S51} (hg : rng p) (hp : p.length = l.length) (N : Int) {i : Int} (h0 : 0 ≤ i) (h1 : i + 1 < l.length) (t u : Bool) (c d : Int) {r : Bool} (hf : okJ l p i t u = false → r = false)
    (hr : okJ l p i t u = true → Ev (fun k => m_Proves.l2 k l p i t N i c (wrap64 (d + 1)) false true false true false true) r) :
    Ev (fun k => m_Proves.j6 k l p i t u N i c d false true false true false true) r := by
  have n2 := h.n2
  have w := wr (x := i + 1) (by omega)
  have jb := J_bd h h0 (by omega) (show 0 ≤ i + 1 by omega) h1 t u
  have r1 := rng_sel hg h0 (by omega) t
  have r2 := rng_sel hg (i := i + 1) (by omega) (by omega) u
  have g0 : 0 ≤ i + 1 := by omega
  have g1 : i < (p.length : Int) := by omega
  have g2 : i + 1 < (p.length : Int) := by omega
  have w1 : wrap64 (-9223372036854775808 + J l i t (i + 1) u) = -9223372036854775808 + J l i t (i + 1) u := wr ⟨by omega, by omega⟩
  have fin : ∀ z : Bool, z = !(okJ l p i t u) → Ev (fun k => m_Proves.j8 k l p i t N i c d z false true false true false true) r := fun z hz => by
    cases z
    · refine Ev.step (fun k => ?_) (hr (by simpa using hz.symm))
      simp only [m_Proves.j8, Bool.false_eq_true, if_false]
    · rw [hf (by simpa using hz.symm)]
      exact Ev.const1 fun k => by simp only [m_Proves.j8, if_true]
  refine Ev.step (f := fun k => (m_between.f k l i t (i + 1) u).bind fun a => m_Proves.j7 k l p i t u (sel (rd_T51 p i) t) a N i c d false true false true false true) (fun k => by
    simp only [m_Proves.j6, w]
    cases t <;> simp only [way0, way1, Option.bind_some, if_pos h0, if_pos g1, if_neg i10, if_true, sel, Bool.false_eq_true, if_false]) ?_
  refine Ev.bind (f := fun k a => m_Proves.j7 k l p i t u (sel (rd_T51 p i) t) a N i c d false true false true false true) (btw_ev (a := i) (b := i + 1) h h0 (by omega) g0 h1 t u) ?_
  by_cases q1 : sel (rd_T51 p i) t ≥ -9223372036854775808 + J l i t (i + 1) u
  · have w4 := wr (x := sel (rd_T51 p i) t - J l i t (i + 1) u) ⟨by omega, by omega⟩
    refine Ev.step (fun k => ?_) (fin (decide (sel (rd_T51 p i) t - J l i t (i + 1) u > sel (rd_T51 p (i + 1)) u)) (by unfold okJ; rw [decide_eq_true q1, Bool.true_and, Bool.not_not]))
    simp only [m_Proves.j7, w, w1, w4, if_pos q1]
    cases u <;> simp only [way0, way1, Option.bind_some, if_pos g0, if_pos g2, if_neg i10, if_true, sel, Bool.false_eq_true, if_false] <;> rfl
  · refine Ev.step (fun k => ?_) (fin false (by unfold okJ; rw [decide_eq_false q1, Bool.false_and]; rfl))
    simp only [m_Proves.j7, w1, if_neg q1]
theorem proves4 {l : List S62} (h : Ok l) {p : List S51} (hg : rng p) (hp : p.length = l.length) (N : Int) {i : Int} (h0 : 0 ≤ i) (h1 : i + 1 < l.length) (t : Bool) (c : Int) {r : Bool} (hf : (okJ l p i t false && okJ l p i t true) = false → r = false)
    (hr : (okJ l p i t false && okJ l p i t true) = true → Ev (fun k => m_Proves.l1 k l p i N i (wrap64 (c + 1)) false true false true) r) :
    Ev (fun k => m_Proves.j4 k l p i t N i c false true false true) r := by
  refine Ev.step (f := fun k => m_Proves.l2 k l p i t N i c 0 false true false true false true) (fun k => rfl) ?_
  refine Ev.step (f := fun k => m_Proves.j6 k l p i t false N i c 0 false true false true false true) (fun k => by simp only [m_Proves.l2, if_pos i02, if_true]) ?_
  refine proves6 h hg hp N h0 h1 t false c 0 (fun z => hf (by rw [z]; rfl)) (fun z => ?_)
  rw [w01]
  refine Ev.step (f := fun k => m_Proves.j6 k l p i t true N i c 1 false true false true false true) (fun k => by simp only [m_Proves.l2, if_pos i12, if_neg i10, if_true]) ?_
  refine proves6 h hg hp N h0 h1 t true c 1 (fun z' => hf (by rw [z, z']; rfl)) (fun z' => ?_)
  rw [w11]
  refine Ev.step (fun k => ?_) (hr (by rw [z, z']; rfl))
  simp only [m_Proves.l2, if_neg i22]
theorem proves0 {l : List S62} (h : Ok l) {p : List S51} (hg : rng p) (hp : p.length = l.length) : ∀ (m : Nat) (i : Int), 0 ≤ i → i + m = l.length - 1 → Ev (fun k => m_Proves.l0 k l p (l.length - 1) i false true) (loopB l p m i)
  | 0, i, h0, h1 => Ev.const1 fun k => by
    simp only [m_Proves.l0]
    rw [if_neg (by omega)]; rfl
  | m + 1, i, h0, h1 => by
    have n2 := h.n2
    have ih := proves0 h hg hp m (i + 1) (by omega) (by omega)
    refine Ev.step (f := fun k => m_Proves.l1 k l p i (l.length - 1) i 0 false true false true) (fun k => by
      simp only [m_Proves.l0]
      rw [if_pos (by omega)]) ?_
    refine Ev.step (f := fun k => m_Proves.j4 k l p i false (l.length - 1) i 0 false true false true) (fun k => by simp only [m_Proves.l1, if_pos i02, if_true]) ?_
    have e : loopB l p (m + 1) i = ((okJ l p i false false && okJ l p i false true) && ((okJ l p i true false && okJ l p i true true) && loopB l p m (i + 1))) := by
      simp only [loopB, ok4, Bool.and_assoc]
    rw [e]
    refine proves4 h hg hp _ h0 (by omega) false 0 (fun z => by rw [z]; rfl) (fun z => ?_)
    rw [z, w01, Bool.true_and]
    refine Ev.step (f := fun k => m_Proves.j4 k l p i true (l.length - 1) i 1 false true false true) (fun k => by simp only [m_Proves.l1, if_pos i12, if_neg i10, if_true]) ?_
    refine proves4 h hg hp _ h0 (by omega) true 1 (fun z => by rw [z]; rfl) (fun z => ?_)
    rw [z, w11, Bool.true_and]
    refine Ev.step (fun k => ?_) ih
    simp only [m_Proves.l1, if_neg i22]
    rw [wr (by omega)]
theorem Proves_ev (l : List S62) (c : Int) (p : List S51) (hg : rng p) : Ev (fun k => m_Proves.f k l c p) (pvs l c p) := by
  have no : ∀ b, Ev (fun k => m_Proves.j0 k l c p true b true) false := fun b => Ev.const1 fun k => by simp [m_Proves.j0]
  unfold m_Proves.f
  refine Ev.bind (ck_ev l) ?_
  by_cases h : ck l = 0
  · have hk := ok_of h
    have n1 := hk.n1
    have n2 := hk.n2
    simp only [if_pos h]
    unfold pvs
    rw [decide_eq_true h, Bool.true_and]
    by_cases q : (p.length : Int) = l.length
    · have wl := wr (x := (p.length : Int) - 1) (by omega)
      have wn := wr (x := (l.length : Int) - 1) (by omega)
      have loop := proves0 hk hg (by omega) (l.length - 1) 0 (Int.le_refl 0) (by omega)
      rw [decide_eq_true q, Bool.true_and, show ((p.length : Int) != (l.length : Int)) = false by simp [q]]
      refine Ev.step (f := fun k => m_Proves.j1 k l p (!(pv0 c p)) false true) (fun k => by
        simp only [m_Proves.j0, Bool.false_eq_true, if_false, wl]
        rw [if_pos (by omega), if_pos (by omega)]
        unfold pv0
        by_cases q1 : (rd_T51 p (p.length - 1)).f0 > 0
        · rw [if_pos q1, decide_eq_true q1]; rfl
        · rw [if_neg q1, decide_eq_false q1]
          by_cases q2 : (rd_T51 p (p.length - 1)).f1 > 0
          · rw [if_pos q2, decide_eq_true q2]; rfl
          · rw [if_neg q2, decide_eq_false q2, if_pos (by omega)]
            by_cases q3 : c > (rd_T51 p 0).f0
            · rw [if_pos q3, decide_eq_true q3]; rfl
            · rw [if_neg q3, decide_eq_false q3]; simp) ?_
      cases pv0 c p
      · exact Ev.const1 fun k => by simp [m_Proves.j1]
      · refine Ev.step (fun k => ?_) loop
        simp only [m_Proves.j1, Bool.not_true, Bool.false_eq_true, if_false, wn]
    · rw [decide_eq_false q, show ((p.length : Int) != (l.length : Int)) = true by simp [q]]
      exact no false
  · simp only [if_neg h]
    unfold pvs
    rw [decide_eq_false h]
    exact no false
theorem Proof_ev (l : List S62) : ∃ tab, Ev (fun k => m_Proof.f k l) (if ck l = 0 then (tab, 0) else ([], ck l)) ∧ (ck l = 0 → tab.length = l.length ∧ Tab l l.length tab 0) := by
  by_cases h : ck l = 0
  · have hk := ok_of h
    have n1 := hk.n1
    obtain ⟨tab, h1, h2, h3⟩ := least_ev hk (fr := 0) (e := l.length) (Int.le_refl 0) (Int.le_refl _) (by omega)
    refine ⟨tab, ?_, fun _ => ⟨h2, h3⟩⟩
    unfold m_Proof.f
    have hc := ck_ev l
    rw [h] at hc ⊢
    refine Ev.bind hc ?_
    simp only [if_true]
    exact Ev.bind (f := fun k t295 => (some (t295, (0 : Int)))) h1 (Ev.now _)
  · refine ⟨[], ?_, fun z => absurd z h⟩
    unfold m_Proof.f
    refine Ev.bind (ck_ev l) ?_
    simp only [if_neg h]
    exact Ev.now _
end Go.Proofs.YtglkcinmohjblaaDoor.XA
namespace Go.Proofs.YtglkcinmohjblaaDoor.Pure
set_option linter.unusedVariables false
set_option linter.unusedSimpArgs false
open Go.RowKit Go.Proofs.YtglkcinmohjblaaDoor.Opens Go.Proofs.YtglkcinmohjblaaDoor.XA Go.Proofs.YtglkcinmohjblaaDoorW.PrintWords Go.Proofs.YtglkcinmohjblaaDoorW.PrintLast Go.Proofs.YtglkcinmohjblaaDoorW.PrintMore
def bi (b : Bool) : Int := if b = true then 1 else 0
def badJ (a q x : Int) : Bool := if a > 0 then (if wrap64 (a - x) > q then true else if a ≤ 0 then (if q < 0 then decide (a > wrap64 (x + q)) else false) else false) else (if a ≤ 0 then (if q < 0 then decide (a > wrap64 (x + q)) else false) else false)
theorem badJ_eq {a q x : Int} (ha : -9223372036854775808 ≤ a ∧ a ≤ 9223372036854775807) (hq : -9223372036854775808 ≤ q ∧ q ≤ 9223372036854775807) (hx : 0 ≤ x ∧ x ≤ 64000) : badJ a q x = (decide (a ≥ -9223372036854775808 + x) && decide (a - x > q)) := by
  unfold badJ
  by_cases h1 : a > 0
  · rw [if_pos h1, wr (x := a - x) (by omega), decide_eq_true (show a ≥ -9223372036854775808 + x by omega), Bool.true_and]
    by_cases h2 : a - x > q
    · rw [if_pos h2, decide_eq_true h2]
    · rw [if_neg h2, decide_eq_false h2, if_neg (by omega)]
  · rw [if_neg h1, if_pos (by omega)]
    by_cases h3 : q < 0
    · rw [if_pos h3, wr (x := x + q) (by omega)]
      by_cases h4 : a > x + q
      · rw [decide_eq_true h4, decide_eq_true (show a ≥ -9223372036854775808 + x by omega), decide_eq_true (show a - x > q by omega)]; rfl
      · rw [decide_eq_false h4, decide_eq_false (show ¬ a - x > q by omega), Bool.and_false]
    · rw [if_neg h3, decide_eq_false (show ¬ a - x > q by omega), Bool.and_false]
theorem rproves2 {l : List S62} (h : Ok l) {p : List S51} (hg : rng p) (hp : p.length = l.length) (N : Int) {i : Int} (h0 : 0 ≤ i) (h1 : i + 1 < l.length) (t u : Bool) {r : Bool}
    (hr : Ev (fun k => rf_Proves.j5 k l p N i (bi t) (bi u) (!(okJ l p i t u))) r) : Ev (fun k => rf_Proves.l2 k l p N i (bi t) (bi u)) r := by
  have n2 := h.n2
  have w := wr (x := i + 1) (by omega)
  have jb := J_bd h h0 (by omega) (show 0 ≤ i + 1 by omega) h1 t u
  have r1 := rng_sel hg h0 (by omega) t
  have r2 := rng_sel hg (i := i + 1) (by omega) (by omega) u
  have g0 : 0 ≤ i + 1 := by omega
  have g1 : i < (p.length : Int) := by omega
  have g2 : i + 1 < (p.length : Int) := by omega
  have et : (bi t == 1) = t := by cases t <;> rfl
  have eu : (bi u == 1) = u := by cases u <;> rfl
  refine Ev.step (f := fun k => (rf_Joint.f k l i t (i + 1) u).bind fun x => rf_Proves.j5 k l p N i (bi t) (bi u) (badJ (sel (rd_T51 p i) t) (sel (rd_T51 p (i + 1)) u) x)) (fun k => by
    have lt : bi u < 2 := by cases u <;> decide
    simp only [rf_Proves.l2, w, et, eu, if_pos lt]
    congr 1
    funext x
    simp only [if_pos h0, if_pos g0, if_pos g1, if_pos g2]
    cases t <;> cases u <;> simp only [bi, sel, badJ, Bool.false_eq_true, if_false, if_true, if_neg i10]
    · by_cases q1 : (rd_T51 p i).f0 > 0 <;> by_cases q2 : (rd_T51 p i).f0 ≤ 0 <;> by_cases q3 : (rd_T51 p (i + 1)).f0 < 0 <;> by_cases q4 : wrap64 ((rd_T51 p i).f0 - x) > (rd_T51 p (i + 1)).f0 <;> simp [q1, q2, q3, q4]
    · by_cases q1 : (rd_T51 p i).f0 > 0 <;> by_cases q2 : (rd_T51 p i).f0 ≤ 0 <;> by_cases q3 : (rd_T51 p (i + 1)).f1 < 0 <;> by_cases q4 : wrap64 ((rd_T51 p i).f0 - x) > (rd_T51 p (i + 1)).f1 <;> simp [q1, q2, q3, q4]
    · by_cases q1 : (rd_T51 p i).f1 > 0 <;> by_cases q2 : (rd_T51 p i).f1 ≤ 0 <;> by_cases q3 : (rd_T51 p (i + 1)).f0 < 0 <;> by_cases q4 : wrap64 ((rd_T51 p i).f1 - x) > (rd_T51 p (i + 1)).f0 <;> simp [q1, q2, q3, q4]
    · by_cases q1 : (rd_T51 p i).f1 > 0 <;> by_cases q2 : (rd_T51 p i).f1 ≤ 0 <;> by_cases q3 : (rd_T51 p (i + 1)).f1 < 0 <;> by_cases q4 : wrap64 ((rd_T51 p i).f1 - x) > (rd_T51 p (i + 1)).f1 <;> simp [q1, q2, q3, q4]) ?_
  refine Ev.bind (f := fun k x => rf_Proves.j5 k l p N i (bi t) (bi u) (badJ (sel (rd_T51 p i) t) (sel (rd_T51 p (i + 1)) u) x)) (rjoint_ev (a := i) (b := i + 1) h h0 (by omega) g0 h1 t u) ?_
  rw [badJ_eq r1 r2 jb]
  unfold okJ at hr
  rw [Bool.not_not] at hr
  exact hr
theorem rproves4 {l : List S62} (h : Ok l) {p : List S51} (hg : rng p) (hp : p.length = l.length) (N : Int) {i : Int} (h0 : 0 ≤ i) (h1 : i + 1 < l.length) (t : Bool) {r : Bool} (hf : (okJ l p i t false && okJ l p i t true) = false → r = false)
    (hr : (okJ l p i t false && okJ l p i t true) = true → Ev (fun k => rf_Proves.l1 k l p N i (wrap64 (bi t + 1))) r) :
    Ev (fun k => rf_Proves.l2 k l p N i (bi t) 0) r := by
  refine rproves2 h hg hp N h0 h1 t false ?_
  cases q1 : okJ l p i t false
  · rw [hf (by rw [q1]; rfl)]
    exact Ev.const1 fun k => by simp [rf_Proves.j5]
  · apply Ev.step
    focus (intro k; simp only [rf_Proves.j5, Bool.not_true, Bool.false_eq_true, if_false]; rfl)
    rw [show wrap64 (bi false + 1) = bi true by decide +kernel]
    refine rproves2 h hg hp N h0 h1 t true ?_
    cases q2 : okJ l p i t true
    · rw [hf (by rw [q1, q2]; rfl)]
      exact Ev.const1 fun k => by simp [rf_Proves.j5]
    · apply Ev.step
      focus (intro k; simp only [rf_Proves.j5, Bool.not_true, Bool.false_eq_true, if_false]; rfl)
      rw [show wrap64 (bi true + 1) = 2 by decide +kernel]
      refine Ev.step (fun k => ?_) (hr (by rw [q1, q2]; rfl))
      simp only [rf_Proves.l2, if_neg i22]
theorem rproves0 {l : List S62} (h : Ok l) {p : List S51} (hg : rng p) (hp : p.length = l.length) : ∀ (m : Nat) (i : Int), 0 ≤ i → i + m = l.length - 1 → Ev (fun k => rf_Proves.l0 k l p l.length i) (loopB l p m i)
  | 0, i, h0, h1 => Ev.const1 fun k => by
    have n2 := h.n2
    simp only [rf_Proves.l0]
    rw [if_neg (by rw [wr (by omega)]; omega)]; rfl
  | m + 1, i, h0, h1 => by
    have n2 := h.n2
    have ih := rproves0 h hg hp m (i + 1) (by omega) (by omega)
    refine Ev.step (f := fun k => rf_Proves.l1 k l p l.length i 0) (fun k => by
      simp only [rf_Proves.l0]
      rw [if_pos (by rw [wr (by omega)]; omega)]) ?_
    refine Ev.step (f := fun k => rf_Proves.l2 k l p l.length i (bi false) 0) (fun k => by simp only [rf_Proves.l1, if_pos i02]; rfl) ?_
    have e : loopB l p (m + 1) i = ((okJ l p i false false && okJ l p i false true) && ((okJ l p i true false && okJ l p i true true) && loopB l p m (i + 1))) := by
      simp only [loopB, ok4, Bool.and_assoc]
    rw [e]
    refine rproves4 h hg hp _ h0 (by omega) false (fun z => by rw [z]; rfl) (fun z => ?_)
    rw [z, Bool.true_and, show wrap64 (bi false + 1) = 1 by decide +kernel]
    refine Ev.step (f := fun k => rf_Proves.l2 k l p l.length i (bi true) 0) (fun k => by simp only [rf_Proves.l1, if_pos i12]; rfl) ?_
    refine rproves4 h hg hp _ h0 (by omega) true (fun z => by rw [z]; rfl) (fun z => ?_)
    rw [z, Bool.true_and, show wrap64 (bi true + 1) = 2 by decide +kernel]
    refine Ev.step (fun k => ?_) ih
    simp only [rf_Proves.l1, if_neg i22]
    rw [wr (by omega)]
theorem rProves_ev (l : List S62) (c : Int) (p : List S51) (hg : rng p) : Ev (fun k => rf_Proves.f k l c p) (pvs l c p) := by
  have no : Ev (fun k => rf_Proves.j0 k l c p true) false := Ev.const1 fun k => by simp [rf_Proves.j0]
  unfold rf_Proves.f
  refine Ev.bind (rck_ev l) ?_
  by_cases h : ck l = 0
  · have hk := ok_of h
    have n1 := hk.n1
    have n2 := hk.n2
    simp only [if_pos h]
    unfold pvs
    rw [decide_eq_true h, Bool.true_and]
    by_cases q : (p.length : Int) = l.length
    · have wn := wr (x := (l.length : Int) - 1) (by omega)
      have loop := rproves0 hk hg (by omega) (l.length - 1) 0 (Int.le_refl 0) (by omega)
      rw [decide_eq_true q, Bool.true_and, show ((p.length : Int) != (l.length : Int)) = false by simp [q]]
      refine Ev.step (f := fun k => rf_Proves.j1 k l p l.length (!(pv0 c p))) (fun k => by
        simp only [rf_Proves.j0, Bool.false_eq_true, if_false, wn]
        rw [if_pos (by omega), if_pos (by omega)]
        unfold pv0
        rw [q]
        by_cases q1 : (rd_T51 p (l.length - 1)).f0 > 0
        · rw [if_pos q1, decide_eq_true q1]; rfl
        · rw [if_neg q1, decide_eq_false q1]
          by_cases q2 : (rd_T51 p (l.length - 1)).f1 > 0
          · rw [if_pos q2, decide_eq_true q2]; rfl
          · rw [if_neg q2, decide_eq_false q2, if_pos (by omega)]
            by_cases q3 : c > (rd_T51 p 0).f0
            · rw [if_pos q3, decide_eq_true q3]; rfl
            · rw [if_neg q3, decide_eq_false q3]; simp) ?_
      cases pv0 c p
      · exact Ev.const1 fun k => by simp [rf_Proves.j1]
      · refine Ev.step (fun k => ?_) loop
        simp only [rf_Proves.j1, Bool.not_true, Bool.false_eq_true, if_false]
    · rw [decide_eq_false q, show ((p.length : Int) != (l.length : Int)) = true by simp [q]]
      exact no
  · simp only [if_neg h]
    unfold pvs
    rw [decide_eq_false h]
    exact no
def pfR (l : List S62) : Nat → Int → List S51
  | 0, _ => []
  | m + 1, i => ⟨Lm l m i false, Lm l m i true⟩ :: pfR l m (i + 1)
theorem pfR_len (l : List S62) : ∀ (m : Nat) (i : Int), (pfR l m i).length = m
  | 0, _ => rfl
  | m + 1, i => by simp [pfR, pfR_len l m]
theorem pfR_rd (l : List S62) : ∀ (m : Nat) (i j : Int), 0 ≤ j → j < m → rd_T51 (pfR l m i) j = ⟨Lm l (m - 1 - j).toNat (i + j) false, Lm l (m - 1 - j).toNat (i + j) true⟩
  | 0, _, j, h0, h1 => by omega
  | m + 1, i, j, h0, h1 => by
    by_cases q : j = 0
    · subst q
      rw [show (((m + 1 : Nat) : Int) - 1 - 0).toNat = m by omega, Int.add_zero]
      rfl
    · have e : rd_T51 (pfR l (m + 1) i) j = rd_T51 (pfR l m (i + 1)) (j - 1) := by
        obtain ⟨n, hn⟩ : ∃ n : Nat, j = n + 1 := ⟨(j - 1).toNat, by omega⟩
        subst hn
        simp only [rd_T51, pfR, show ((n : Int) + 1).toNat = n + 1 by omega, show ((n : Int) + 1 - 1).toNat = n by omega, List.getD_cons_succ]
      rw [e, pfR_rd l m (i + 1) (j - 1) (by omega) (by omega), show (((m + 1 : Nat) : Int) - 1 - j).toNat = ((m : Int) - 1 - (j - 1)).toNat by omega, show i + 1 + (j - 1) = i + j by omega]
theorem rproof0 {l : List S62} (h : Ok l) : ∀ (m : Nat) (i : Int) (acc : List S51), (acc.length : Int) = i → i + m = l.length → acc ++ pfR l m i = pfR l l.length 0 → Ev (fun k => rf_Proof.l0 k l acc i) (pfR l l.length 0)
  | 0, i, acc, ha, hi, he => Ev.const1 fun k => by
    have he' : acc = pfR l l.length 0 := by simpa [pfR] using he
    simp only [rf_Proof.l0]
    rw [if_neg (by omega), he']
  | m + 1, i, acc, ha, hi, he => by
    have n2 := h.n2
    have e := fun t => rLeast_ev h (i := i) (by omega) (by omega) t
    rw [show ((l.length : Int) - 1 - i).toNat = m by omega] at e
    refine Ev.step (f := fun k => (rf_Least.f k l i false).bind fun t457 => ((rf_Least.f k l i true).bind fun t458 => rf_Proof.l0 k l (acc ++ [(⟨t457, t458⟩ : S51)]) (i + 1))) (fun k => by
      simp only [rf_Proof.l0]
      rw [if_pos (by omega), wr (by omega)]
      simp only [if_pos (show acc.length < 8796093022208 by omega)]) ?_
    refine Ev.bind (e false) ?_
    refine Ev.bind (e true) ?_
    exact rproof0 h m (i + 1) _ (by simp; omega) (by omega) (by rw [← he]; simp [pfR])
theorem rProof_ev {l : List S62} (h : Ok l) : Ev (fun k => rf_Proof.f k l) (pfR l l.length 0) := rproof0 h l.length 0 [] rfl (by omega) rfl
theorem lproofs0 {l : List S62} {tab : List S51} (h2 : tab.length = l.length) (hl : l.length ≤ 64) (h3 : Tab l l.length tab 0) : ∀ (m : Nat) (i : Int), 0 ≤ i → i + m = l.length → Ev (fun k => lw_BookmatchProofs.l0 k tab (pfR l l.length 0) i) true
  | 0, i, h0, h1 => by
    apply Ev.step
    focus (intro k; simp only [lw_BookmatchProofs.l0]; rw [if_neg (by omega)])
    exact awk1
  | m + 1, i, h0, h1 => by
    have ih := lproofs0 h2 hl h3 m (i + 1) (by omega) (by omega)
    have hr := pfR_rd l l.length 0 i h0 (by omega)
    rw [Int.zero_add] at hr
    have s0 := h3 i h0 (by omega) false
    have s1 := h3 i h0 (by omega) true
    have t0 : (rd_T51 tab i).f0 = (rd_T51 (pfR l l.length 0) i).f0 := by rw [hr]; exact s0
    have t1 : (rd_T51 tab i).f1 = (rd_T51 (pfR l l.length 0) i).f1 := by rw [hr]; exact s1
    have pl := pfR_len l l.length 0
    apply Ev.step
    focus (intro k; simp only [lw_BookmatchProofs.l0]; rw [if_pos (by omega)])
    refine Ev.step (f := fun k => lw_BookmatchProofs.j13 k tab (pfR l l.length 0) i false) (fun k => by
      simp only [lw_BookmatchProofs.j12]
      rw [if_pos h0, if_pos (by omega), if_pos (by omega), if_pos t0, t1]
      simp) ?_
    refine Ev.step (fun k => ?_) ih
    simp only [lw_BookmatchProofs.j13, Bool.false_eq_true, if_false]
    rw [wr (by omega)]
theorem Proofs_ev (l : List S62) (c : Int) (p : List S51) (hg : rng p) : Ev (fun k => lw_BookmatchProofs.f k l c p) true := by
  obtain ⟨b, hb, _, _⟩ := few_ev l 20 (by omega)
  have out : Ev (fun k => lw_BookmatchProofs.j0 k l c p true) true := Ev.step (fun k => by simp only [lw_BookmatchProofs.j0, if_true]) awk1
  unfold lw_BookmatchProofs.f
  refine Ev.bind hb ?_
  cases b with
  | false => simp only [Bool.false_eq_true, if_false]; exact out
  | true =>
    simp only [if_true]
    by_cases q0 : (p.length : Int) > 70
    · rw [decide_eq_true q0]; exact out
    · rw [decide_eq_false q0]
      obtain ⟨tab, hp1, hp2⟩ := Proof_ev l
      apply Ev.step
      focus (intro k; simp only [lw_BookmatchProofs.j0, Bool.false_eq_true, if_false]; rfl)
      apply Ev.step
      focus (intro k; simp only [lw_BookmatchProofs.j1]; rfl)
      refine Ev.bind hp1 ?_
      apply Ev.step
      focus (intro k; simp only [lw_BookmatchProofs.j2]; rfl)
      refine Ev.bind (Proves_ev l c p hg) ?_
      refine Ev.bind (rProves_ev l c p hg) ?_
      rw [bne_self_eq_false]
      apply Ev.step
      focus (intro k; simp only [lw_BookmatchProofs.j3, Bool.false_eq_true, if_false]; rfl)
      apply Ev.step
      focus (intro k; simp only [lw_BookmatchProofs.j4]; rfl)
      refine Ev.bind (rck_ev l) ?_
      by_cases h : ck l = 0
      · have hk := ok_of h
        have n2 := hk.n2
        obtain ⟨hp3, hp4⟩ := hp2 h
        simp only [if_pos h]
        apply Ev.step
        focus (intro k; simp only [lw_BookmatchProofs.j5, h, if_true]; rfl)
        apply Ev.step
        focus (intro k; simp only [lw_BookmatchProofs.j7]; rfl)
        refine Ev.bind (rProof_ev hk) ?_
        have e : ((tab.length : Int) != ((pfR l l.length 0).length : Int)) = false := by rw [pfR_len, hp3]; simp
        apply Ev.step
        focus (intro k; simp only [lw_BookmatchProofs.j8, if_true, e]; rfl)
        apply Ev.step
        focus (intro k; simp only [lw_BookmatchProofs.j9, Bool.false_eq_true, if_false]; rfl)
        apply Ev.step
        focus (intro k; simp only [lw_BookmatchProofs.j10]; rfl)
        exact lproofs0 hp3 n2 hp4 l.length 0 (Int.le_refl 0) (by omega)
      · simp only [if_neg h]
        apply Ev.step
        focus (intro k; simp only [lw_BookmatchProofs.j5, if_neg h, if_true, List.length_nil, Int.natCast_zero]; rfl)
        refine awk ?_
        simp only [if_true]
        exact Ev.const1 fun k => by simp [lw_BookmatchProofs.j6]
theorem BookmatchProofs : lw_BookmatchProofs.Pure := by
  intro l c p g g1 g2
  exact Ev.rounds (Proofs_ev l c p (fun x hx => ⟨gInt_i64 (g2.2 x hx).1, gInt_i64 (g2.2 x hx).2⟩))
end Go.Proofs.YtglkcinmohjblaaDoor.Pure
