import Derived.Test.YtglkcinmohjblaaDoorXAx34
import Derived.Test.YtglkcinmohjblaaDoorXAx37
import Derived.Test.YtglkcinmohjblaaDoorXAx4
import Derived.Test.YtglkcinmohjblaaDoorXAx43
import Derived.Test.YtglkcinmohjblaaDoorXAx44
import Derived.Test.YtglkcinmohjblaaDoorXAx32
import Derived.Test.YtglkcinmohjblaaDoorXAx39
import Derived.Test.YtglkcinmohjblaaDoorXAx40
import Derived.Test.YtglkcinmohjblaaDoorHa
set_option linter.unusedVariables false
set_option linter.unusedSimpArgs false
namespace Go.Proofs.YtglkcinmohjblaaDoor.XA
set_option linter.unusedVariables false
set_option linter.unusedSimpArgs false
open Go.RowKit Opens YtglkcinmohjblaaDoorW.PrintWords YtglkcinmohjblaaDoorW.PrintLast YtglkcinmohjblaaDoorW.PrintMore
theorem wr {x : Int} (h : -9223372036854775808 ≤ x ∧ x ≤ 9223372036854775807) : wrap64 x = x := by unfold wrap64; omega
theorem rd_at {xs : List Int} {i : Int} (h0 : 0 ≤ i) (h1 : i < xs.length) : ∃ h : i.toNat < xs.length, rd xs i = xs[i.toNat] := by
  have h : i.toNat < xs.length := by omega
  refine ⟨h, ?_⟩
  unfold rd
  rw [List.getD_eq_getElem?_getD, List.getElem?_eq_getElem h]
  rfl
theorem rd_mem {xs : List Int} {i : Int} (h0 : 0 ≤ i) (h1 : i < xs.length) : rd xs i ∈ xs := by
  obtain ⟨h, e⟩ := rd_at h0 h1
  rw [e]; exact List.getElem_mem h
theorem mem_rd {xs : List Int} {x : Int} (h : x ∈ xs) : ∃ i : Int, 0 ≤ i ∧ i < xs.length ∧ rd xs i = x := by
  obtain ⟨n, hn, e⟩ := List.mem_iff_getElem.1 h
  refine ⟨n, by omega, by omega, ?_⟩
  obtain ⟨h', e'⟩ := rd_at (xs := xs) (i := n) (by omega) (by omega)
  rw [e', ← e]; rfl
theorem rd_ext {xs ys : List Int} (hl : xs.length = ys.length) (h : ∀ i : Int, 0 ≤ i → i < xs.length → rd xs i = rd ys i) : xs = ys := by
  apply List.ext_getElem hl
  intro n h1 h2
  have := h n (by omega) (by omega)
  obtain ⟨_, e1⟩ := rd_at (xs := xs) (i := n) (by omega) (by omega)
  obtain ⟨_, e2⟩ := rd_at (xs := ys) (i := n) (by omega) (by omega)
  rw [e1, e2] at this
  exact this
theorem rd_reverse {xs : List Int} {i : Int} (h0 : 0 ≤ i) (h1 : i < xs.length) : rd xs.reverse i = rd xs (xs.length - 1 - i) := by
  obtain ⟨_, e1⟩ := rd_at (xs := xs.reverse) (i := i) h0 (by rw [List.length_reverse]; omega)
  obtain ⟨_, e2⟩ := rd_at (xs := xs) (i := xs.length - 1 - i) (by omega) (by omega)
  rw [e1, e2, List.getElem_reverse]
  congr 1
  omega
theorem rd_set {xs : List Int} {i j v : Int} (h0 : 0 ≤ i) (h1 : i < xs.length) (hj0 : 0 ≤ j) (hj : j < xs.length) : rd (xs.set i.toNat v) j = if j = i then v else rd xs j := by
  obtain ⟨_, e1⟩ := rd_at (xs := xs.set i.toNat v) (i := j) hj0 (by rw [List.length_set]; omega)
  obtain ⟨_, e2⟩ := rd_at (xs := xs) (i := j) hj0 hj
  rw [e1, e2, List.getElem_set]
  by_cases e : j = i
  · subst e; simp
  · rw [if_neg (by omega), if_neg e]
def okB (xs : List Int) : Bool := xs.all fun x => decide (0 ≤ x ∧ x ≤ 1000)
theorem okB_rd {xs : List Int} (h : okB xs = true) {i : Int} (h0 : 0 ≤ i) (h1 : i < xs.length) : 0 ≤ rd xs i ∧ rd xs i ≤ 1000 := by
  unfold okB at h
  rw [List.all_eq_true] at h
  simpa using h _ (rd_mem h0 h1)
theorem okB_of {xs : List Int} (h : ∀ i : Int, 0 ≤ i → i < xs.length → 0 ≤ rd xs i ∧ rd xs i ≤ 1000) : okB xs = true := by
  unfold okB
  rw [List.all_eq_true]
  intro x hx
  obtain ⟨i, h0, h1, e⟩ := mem_rd hx
  have := h i h0 h1
  rw [e] at this
  simpa using this
theorem okB_not {xs : List Int} (h : okB xs = false) : ∃ i : Int, 0 ≤ i ∧ i < xs.length ∧ ¬ (0 ≤ rd xs i ∧ rd xs i ≤ 1000) := by
  by_cases q : ∃ i : Int, 0 ≤ i ∧ i < xs.length ∧ ¬ (0 ≤ rd xs i ∧ rd xs i ≤ 1000)
  · exact q
  · have : okB xs = true := okB_of fun i h0 h1 => Classical.byContradiction fun c => q ⟨i, h0, h1, c⟩
    rw [this] at h; cases h
def chk (xs : List Int) : Int := if 1 ≤ xs.length ∧ xs.length ≤ 64 then (if okB xs = true then 0 else 6) else 1
theorem min0 (xs : List Int) (hl : xs.length ≤ 64) : ∀ (m : Nat) (i acc : Int) (k : Nat), 0 ≤ i → i + m = xs.length → m < k →
    ∃ r, slices_Min_int_int.l0 k xs acc i = some r ∧ (r < 0 ↔ acc < 0 ∨ ∃ j, i ≤ j ∧ j < xs.length ∧ rd xs j < 0) := by
  intro m
  induction m with
  | zero =>
    intro i acc k h0 hm hk
    obtain ⟨k, rfl⟩ : ∃ q, k = q + 1 := ⟨k - 1, by omega⟩
    simp only [slices_Min_int_int.l0]
    rw [if_neg (by omega)]
    refine ⟨acc, rfl, fun h => .inl h, ?_⟩
    rintro (h | ⟨j, h1, h2, _⟩)
    · exact h
    · omega
  | succ m ih =>
    intro i acc k h0 hm hk
    obtain ⟨k, rfl⟩ : ∃ q, k = q + 1 := ⟨k - 1, by omega⟩
    simp only [slices_Min_int_int.l0]
    rw [if_pos (by omega), if_pos h0, wr (x := i + 1) (by omega)]
    obtain ⟨r, h1, h2⟩ := ih (i + 1) (mn acc (rd xs i)) k (by omega) (by omega) (by omega)
    refine ⟨r, h1, h2.trans ⟨?_, ?_⟩⟩
    · rintro (h | ⟨j, q1, q2, q3⟩)
      · unfold mn at h
        split at h
        · exact .inr ⟨i, by omega, by omega, h⟩
        · exact .inl h
      · exact .inr ⟨j, by omega, q2, q3⟩
    · rintro (h | ⟨j, q1, q2, q3⟩)
      · left; unfold mn; split <;> omega
      · by_cases e : j = i
        · subst e; left; unfold mn; split <;> omega
        · exact .inr ⟨j, by omega, q2, q3⟩
theorem max0 (xs : List Int) (hl : xs.length ≤ 64) : ∀ (m : Nat) (i acc : Int) (k : Nat), 0 ≤ i → i + m = xs.length → m < k →
    ∃ r, slices_Max_int_int.l0 k xs acc i = some r ∧ (r > 1000 ↔ acc > 1000 ∨ ∃ j, i ≤ j ∧ j < xs.length ∧ rd xs j > 1000) := by
  intro m
  induction m with
  | zero =>
    intro i acc k h0 hm hk
    obtain ⟨k, rfl⟩ : ∃ q, k = q + 1 := ⟨k - 1, by omega⟩
    simp only [slices_Max_int_int.l0]
    rw [if_neg (by omega)]
    refine ⟨acc, rfl, fun h => .inl h, ?_⟩
    rintro (h | ⟨j, h1, h2, _⟩)
    · exact h
    · omega
  | succ m ih =>
    intro i acc k h0 hm hk
    obtain ⟨k, rfl⟩ : ∃ q, k = q + 1 := ⟨k - 1, by omega⟩
    simp only [slices_Max_int_int.l0]
    rw [if_pos (by omega), if_pos h0, wr (x := i + 1) (by omega)]
    obtain ⟨r, h1, h2⟩ := ih (i + 1) (mx acc (rd xs i)) k (by omega) (by omega) (by omega)
    refine ⟨r, h1, h2.trans ⟨?_, ?_⟩⟩
    · rintro (h | ⟨j, q1, q2, q3⟩)
      · unfold mx at h
        split at h
        · exact .inr ⟨i, by omega, by omega, h⟩
        · exact .inl h
      · exact .inr ⟨j, by omega, q2, q3⟩
    · rintro (h | ⟨j, q1, q2, q3⟩)
      · left; unfold mx; split <;> omega
      · by_cases e : j = i
        · subst e; left; unfold mx; split <;> omega
        · exact .inr ⟨j, by omega, q2, q3⟩
theorem check_f (xs : List Int) (j : Nat) : c_Check.f (100 + j) xs = some (chk xs) := by
  unfold c_Check.f chk
  rw [show 100 + j = 99 + j + 1 by omega]
  simp only [c_Check.j0]
  by_cases h1 : (xs.length : Int) < 1
  · simp only [if_pos h1, if_true]
    rw [if_neg (by omega)]
  · rw [if_neg h1]
    by_cases h2 : (xs.length : Int) > 64
    · rw [if_pos (by simpa using h2), if_neg (by omega)]
    · rw [if_neg (by simpa using h2), if_pos (by omega)]
      unfold slices_Min_int_int.f slices_Max_int_int.f
      rw [if_neg h1, if_neg h1, if_pos (by omega), if_pos (by omega)]
      obtain ⟨a, e1, p1⟩ := min0 xs (by omega) (xs.length - 1) 1 (rd xs 0) (99 + j) (by omega) (by omega) (by omega)
      obtain ⟨b, e2, p2⟩ := max0 xs (by omega) (xs.length - 1) 1 (rd xs 0) (99 + j) (by omega) (by omega) (by omega)
      rw [e1, e2]
      simp only [Option.bind_some]
      by_cases ok : okB xs = true
      · have z : ∀ i : Int, 0 ≤ i → i < xs.length → 0 ≤ rd xs i ∧ rd xs i ≤ 1000 := fun i => okB_rd ok
        have n1 : ¬ a < 0 := by
          intro h
          rcases p1.1 h with h | ⟨j, q1, q2, q3⟩
          · have := z 0 (by omega) (by omega); omega
          · have := z j (by omega) (by omega); omega
        have n2 : ¬ b > 1000 := by
          intro h
          rcases p2.1 h with h | ⟨j, q1, q2, q3⟩
          · have := z 0 (by omega) (by omega); omega
          · have := z j (by omega) (by omega); omega
        rw [if_neg n1, if_neg n2, if_pos ok]
      · obtain ⟨i, q1, q2, q3⟩ := okB_not (by simpa using ok)
        rw [if_neg ok]
        by_cases n1 : a < 0
        · rw [if_pos n1]
        · rw [if_neg n1]
          have n2 : b > 1000 := by
            apply p2.2
            by_cases e : i = 0
            · subst e
              left
              by_cases u : rd xs 0 < 0
              · exact absurd (p1.2 (.inl u)) n1
              · omega
            · right
              refine ⟨i, by omega, by omega, ?_⟩
              by_cases u : rd xs i < 0
              · exact absurd (p1.2 (.inr ⟨i, by omega, by omega, u⟩)) n1
              · omega
          rw [if_pos n2]

theorem clone_f (xs : List Int) (hl : xs.length ≤ 1000) : slices_Clone_int_int.f xs = some xs := by
  unfold slices_Clone_int_int.f
  simp only [Option.bind_some, List.length_nil, List.nil_append]
  rw [if_pos (by omega)]
theorem rev0 (xs : List Int) (hl : xs.length ≤ 1000) : ∀ (m : Nat) (i : Int) (ys : List Int) (k : Nat), 0 ≤ i → 2 * i + m = xs.length + 1 ∨ (m = 0 ∧ 2 * i = xs.length + 1) → m < k → ys.length = xs.length →
    (∀ j : Int, 0 ≤ j → j < xs.length → rd ys j = if j < i ∨ j > xs.length - 1 - i then rd xs (xs.length - 1 - j) else rd xs j) → slices_Reverse_int_int.l0 k ys i (xs.length - 1 - i) = some xs.reverse := by
  intro m
  induction m using Nat.strongRecOn with
  | _ m ih =>
    intro i ys k h0 hm hk hy hinv
    obtain ⟨k, rfl⟩ : ∃ q, k = q + 1 := ⟨k - 1, by omega⟩
    simp only [slices_Reverse_int_int.l0]
    by_cases c : i < xs.length - 1 - i
    · have c1 : (0 : Int) ≤ xs.length - 1 - i := by omega
      have c2 : (xs.length : Int) - 1 - i < (ys.length : Int) := by omega
      have c3 : i < (ys.length : Int) := by omega
      simp only [c, c1, c2, c3, h0, if_true]
      rw [wr (x := i + 1) (by omega), wr (x := (xs.length : Int) - 1 - i - 1) (by omega), show (xs.length : Int) - 1 - i - 1 = xs.length - 1 - (i + 1) by omega]
      refine ih (m - 2) (by omega) (i + 1) _ k (by omega) (by omega) (by omega) (by simp [hy]) ?_
      intro j hj0 hj1
      rw [rd_set c1 (by rw [List.length_set]; exact c2) hj0 (by rw [List.length_set]; omega), rd_set h0 c3 hj0 (by omega)]
      have e1 := hinv i h0 (by omega)
      have e2 := hinv (xs.length - 1 - i) c1 (by omega)
      have e3 := hinv j hj0 hj1
      rw [if_neg (by omega)] at e1 e2
      by_cases q1 : j = xs.length - 1 - i
      · subst q1
        rw [if_pos rfl, if_pos (by omega), e1, show (xs.length : Int) - 1 - (xs.length - 1 - i) = i by omega]
      · rw [if_neg q1]
        by_cases q2 : j = i
        · subst q2
          rw [if_pos rfl, if_pos (by omega), e2]
        · rw [if_neg q2, e3]
          by_cases q3 : j < i ∨ j > xs.length - 1 - i
          · rw [if_pos q3, if_pos (by omega)]
          · rw [if_neg q3, if_neg (by omega)]
    · rw [if_neg c]
      congr 1
      apply rd_ext (by rw [hy, List.length_reverse])
      intro j hj0 hj1
      rw [hinv j hj0 (by omega), rd_reverse hj0 (by omega)]
      by_cases q3 : j < i ∨ j > xs.length - 1 - i
      · rw [if_pos q3]
      · rw [if_neg q3, show j = xs.length - 1 - j by omega, show (xs.length : Int) - 1 - (xs.length - 1 - j) = j by omega]
        congr 1
        omega
theorem mirror_f (xs : List Int) (hl : xs.length ≤ 90) (j : Nat) : c_mirror.f (100 + j) xs = some xs.reverse := by
  unfold c_mirror.f slices_Reverse_int_int.f
  rw [clone_f xs (by omega)]
  simp only [Option.bind_some]
  rw [wr (by omega)]
  have := rev0 xs (by omega) (xs.length + 1) 0 xs (100 + j) (by omega) (by omega) (by omega) rfl (fun j h0 h1 => by rw [if_neg (by omega)])
  rw [show (xs.length : Int) - 1 - 0 = xs.length - 1 by omega] at this
  rw [this]
  rfl
theorem Mirror_f (xs : List Int) (j : Nat) : c_Mirror.f (100 + j) xs = some (if chk xs = 0 then (xs.reverse, 0) else ([], chk xs)) := by
  unfold c_Mirror.f
  rw [check_f]
  simp only [Option.bind_some]
  by_cases h : chk xs = 0
  · have hl : xs.length ≤ 64 := by unfold chk at h; split at h <;> omega
    rw [if_pos h, if_pos h, mirror_f xs (by omega)]
    rfl
  · rw [if_neg h, if_neg h]
structure Good (a : List Int) : Prop where
  lo : 1 ≤ a.length
  hi : a.length ≤ 64
  ok : okB a = true
theorem good_iff (a : List Int) : chk a = 0 ↔ Good a := by
  unfold chk
  constructor
  · intro h
    split at h
    · next q =>
      split at h
      · next p => exact ⟨q.1, q.2, p⟩
      · omega
    · omega
  · rintro ⟨h1, h2, h3⟩
    rw [if_pos ⟨h1, h2⟩, if_pos h3]
def two (a b : List Int) : Int := if chk a = 0 then (if chk b = 0 then (if a.length = b.length then 0 else 1) else chk b) else chk a
theorem two_iff (a b : List Int) : two a b = 0 ↔ Good a ∧ Good b ∧ a.length = b.length := by
  unfold two
  by_cases h1 : chk a = 0
  · rw [if_pos h1]
    by_cases h2 : chk b = 0
    · rw [if_pos h2]
      have g1 := (good_iff a).1 h1
      have g2 := (good_iff b).1 h2
      constructor
      · intro h; refine ⟨g1, g2, ?_⟩; split at h <;> omega
      · rintro ⟨_, _, h⟩; rw [if_pos h]
    · rw [if_neg h2]
      exact ⟨fun h => absurd h h2, fun h => absurd ((good_iff b).2 h.2.1) h2⟩
  · rw [if_neg h1]
    exact ⟨fun h => absurd h h1, fun h => absurd ((good_iff a).2 h.1) h1⟩
theorem both_f (a b : List Int) (j : Nat) : c_both.f (100 + j) a b = some (two a b) := by
  unfold c_both.f two
  rw [check_f, check_f]
  simp only [Option.bind_some]
  by_cases h1 : chk a = 0
  · rw [if_pos h1, if_pos h1]
    by_cases h2 : chk b = 0
    · rw [if_pos h2, if_pos h2]
      by_cases h3 : a.length = b.length
      · rw [if_pos h3, if_pos (by omega)]
      · rw [if_neg h3, if_neg (by omega)]
    · rw [if_neg h2, if_neg h2]
  · rw [if_neg h1, if_neg h1]
def ab (x y : Int) : Int := if x > y then x - y else y - x
def mo (a : List Int) (b : Int) : List Int → Int → Int → Int → Int × Int
  | [], _, s, n => (s, n)
  | y :: ys, i, s, n => if 0 ≤ i + b ∧ i + b < a.length then mo a b ys (i + 1) (s + ab (rd a (i + b)) y) (n + 1) else mo a b ys (i + 1) s n
theorem okB_cons {y : Int} {ys : List Int} (h : okB (y :: ys) = true) : (0 ≤ y ∧ y ≤ 1000) ∧ okB ys = true := by
  unfold okB at *
  simp only [List.all_cons, Bool.and_eq_true, decide_eq_true_eq] at h
  exact h
theorem mm_mo (a : List Int) (ha : Good a) (b : Int) (hb : -64 ≤ b ∧ b ≤ 64) : ∀ (ys : List Int) (i s n : Int), okB ys = true → 0 ≤ i → i + ys.length ≤ 64 → 0 ≤ s → s ≤ 1000 * i → 0 ≤ n → n ≤ i →
    mm a b ys i s n = mo a b ys i s n
  | [], i, s, n, _, _, _, _, _, _, _ => rfl
  | y :: ys, i, s, n, hy, h0, hi, hs0, hs, hn0, hn => by
    obtain ⟨hy1, hy2⟩ := okB_cons hy
    simp only [List.length_cons] at hi
    unfold mm mo
    rw [wr (x := i + b) (by omega)]
    by_cases h : 0 ≤ i + b ∧ i + b < a.length
    · rw [if_pos h, if_pos h]
      have hr := okB_rd ha.ok h.1 h.2
      have e : mx (wrap64 (rd a (i + b) - y)) (wrap64 (y - rd a (i + b))) = ab (rd a (i + b)) y := by
        rw [wr (by omega), wr (by omega)]; unfold mx ab; split <;> split <;> omega
      have hab : 0 ≤ ab (rd a (i + b)) y ∧ ab (rd a (i + b)) y ≤ 1000 := by unfold ab; split <;> omega
      rw [e, wr (by omega), wr (by omega)]
      exact mm_mo a ha b hb ys _ _ _ hy2 (by omega) (by omega) (by omega) (by omega) (by omega) (by omega)
    · rw [if_neg h, if_neg h]
      exact mm_mo a ha b hb ys _ _ _ hy2 (by omega) (by omega) (by omega) (by omega) (by omega) (by omega)
theorem mismatch_f {a b : List Int} (ha : Good a) (hb : Good b) {d : Int} (h : -64 ≤ d ∧ d ≤ 64) : c_mismatch.f a b d = some (mo a d b 0 0 0) := by
  unfold c_mismatch.f
  rw [mm_mo a ha d h b 0 0 0 hb.ok (by omega) (by have := hb.hi; omega) (by omega) (by omega) (by omega) (by omega)]
theorem Mismatch_f (a b : List Int) (j : Nat) : c_Mismatch.f (100 + j) a b = some (if two a b = 0 then ((mo a 0 b 0 0 0).1, 0) else (0, two a b)) := by
  unfold c_Mismatch.f
  rw [both_f]
  simp only [Option.bind_some]
  by_cases h : two a b = 0
  · obtain ⟨ha, hb, hl⟩ := (two_iff a b).1 h
    rw [if_pos h, if_pos h, mismatch_f ha hb (by omega)]
    rfl
  · rw [if_neg h, if_neg h]
theorem drop_rd {xs : List Int} {i : Int} (h0 : 0 ≤ i) (h1 : i < xs.length) : xs.drop i.toNat = rd xs i :: xs.drop (i + 1).toNat := by
  obtain ⟨h, e⟩ := rd_at h0 h1
  rw [e, show (i + 1).toNat = i.toNat + 1 by omega]
  exact List.drop_eq_getElem_cons h
theorem drop_end {xs : List Int} {i : Int} (h1 : xs.length ≤ i) : xs.drop i.toNat = [] := List.drop_eq_nil_of_le (by omega)
theorem mo_cons (a : List Int) (b y : Int) (ys : List Int) (i s n : Int) : mo a b (y :: ys) i s n = if 0 ≤ i + b ∧ i + b < a.length then mo a b ys (i + 1) (s + ab (rd a (i + b)) y) (n + 1) else mo a b ys (i + 1) s n := rfl
theorem rcheck0 (xs : List Int) (hl : xs.length ≤ 64) : ∀ (m : Nat) (i : Int) (k : Nat), 0 ≤ i → i + m = xs.length → m < k →
    rg_Check.l0 k xs i = some (if okB (xs.drop i.toNat) = true then 0 else 6) := by
  intro m
  induction m with
  | zero =>
    intro i k h0 hm hk
    obtain ⟨k, rfl⟩ : ∃ q, k = q + 1 := ⟨k - 1, by omega⟩
    simp only [rg_Check.l0]
    rw [if_neg (by omega), drop_end (by omega)]
    rfl
  | succ m ih =>
    intro i k h0 hm hk
    obtain ⟨k, rfl⟩ : ∃ q, k = q + 1 := ⟨k - 1, by omega⟩
    simp only [rg_Check.l0]
    rw [if_pos (by omega), if_pos h0, drop_rd h0 (by omega), wr (by omega)]
    have e : okB (rd xs i :: xs.drop (i + 1).toNat) = (decide (0 ≤ rd xs i ∧ rd xs i ≤ 1000) && okB (xs.drop (i + 1).toNat)) := by unfold okB; rfl
    rw [e]
    by_cases h1 : rd xs i < 0
    · rw [if_pos h1, decide_eq_false (by omega)]; rfl
    · rw [if_neg h1]
      by_cases h2 : rd xs i > 1000
      · rw [if_pos h2, decide_eq_false (by omega)]; rfl
      · rw [if_neg h2, decide_eq_true (by omega), Bool.true_and, ih (i + 1) k (by omega) (by omega) (by omega)]
theorem rcheck_f (xs : List Int) (j : Nat) : rg_Check.f (100 + j) xs = some (chk xs) := by
  unfold rg_Check.f chk
  rw [show 100 + j = 99 + j + 1 by omega]
  simp only [rg_Check.j0]
  by_cases h1 : (xs.length : Int) < 1
  · simp only [if_pos h1, if_true]
    rw [if_neg (by omega)]
  · rw [if_neg h1]
    by_cases h2 : (xs.length : Int) > 64
    · rw [if_pos (by simpa using h2), if_neg (by omega)]
    · rw [if_neg (by simpa using h2), if_pos (by omega), rcheck0 xs (by omega) xs.length 0 _ (by omega) (by omega) (by omega)]
      rfl
theorem ab_bd {x y : Int} (hx : 0 ≤ x ∧ x ≤ 1000) (hy : 0 ≤ y ∧ y ≤ 1000) : 0 ≤ ab x y ∧ ab x y ≤ 1000 := by unfold ab; split <;> omega
theorem kj {k : Nat} (n : Nat) (h : n ≤ k) : ∃ j, k = n + j := Nat.exists_eq_add_of_le h
theorem check_k (xs : List Int) {k : Nat} (hk : 100 ≤ k) : c_Check.f k xs = some (chk xs) := by obtain ⟨j, rfl⟩ := kj _ hk; exact check_f xs j
theorem Mirror_k (xs : List Int) {k : Nat} (hk : 100 ≤ k) : c_Mirror.f k xs = some (if chk xs = 0 then (xs.reverse, 0) else ([], chk xs)) := by obtain ⟨j, rfl⟩ := kj _ hk; exact Mirror_f xs j
theorem Mismatch_k (a b : List Int) {k : Nat} (hk : 100 ≤ k) : c_Mismatch.f k a b = some (if two a b = 0 then ((mo a 0 b 0 0 0).1, 0) else (0, two a b)) := by obtain ⟨j, rfl⟩ := kj _ hk; exact Mismatch_f a b j
theorem rcheck_k (xs : List Int) {k : Nat} (hk : 100 ≤ k) : rg_Check.f k xs = some (chk xs) := by obtain ⟨j, rfl⟩ := kj _ hk; exact rcheck_f xs j
def ds : List Int → List Int → Int
  | x :: xs, y :: ys => ab x y + ds xs ys
  | _, _ => 0
theorem mo_ds (a : List Int) : ∀ (ys : List Int) (i s n : Int), 0 ≤ i → i + ys.length ≤ a.length → (mo a 0 ys i s n).1 = s + ds (a.drop i.toNat) ys
  | [], i, s, n, _, _ => by
    simp only [mo]
    cases a.drop i.toNat <;> simp [ds]
  | y :: ys, i, s, n, h0, h1 => by
    simp only [List.length_cons] at h1
    rw [mo_cons, if_pos (by omega), mo_ds a ys _ _ _ (by omega) (by omega), drop_rd h0 (by omega), Int.add_zero]
    simp only [ds]
    omega
theorem mo_ds0 (a b : List Int) (h : a.length = b.length) : (mo a 0 b 0 0 0).1 = ds a b := by
  rw [mo_ds a b 0 0 0 (by omega) (by omega)]
  simp
theorem chk_reverse (a : List Int) : chk a.reverse = chk a := by
  unfold chk okB
  rw [List.length_reverse, List.all_reverse]
def face (f b : List Int) (t : Bool) : List Int × Int := if t = true then (if chk b = 0 then (b.reverse, 0) else ([], chk b)) else (if chk f = 0 then (f, 0) else ([], chk f))
theorem face_k (a0 a1 : ByteArray) (a2 a3 a4 a5 a6 a7 a8 a9 : Int) (f b : List Int) (t : Bool) {k : Nat} (hk : 100 ≤ k) : c_Face.f k a0 a1 a2 a3 a4 a5 a6 a7 a8 a9 f b t = some (face f b t) := by
  unfold c_Face.f face
  by_cases h : t = true
  · rw [if_pos h, if_pos h, Mirror_k _ hk]
    rfl
  · rw [if_neg h, if_neg h, check_k _ hk]
    simp only [Option.bind_some]
    by_cases z : chk f = 0
    · have g := ((good_iff f).1 z).hi
      rw [if_pos z, if_pos z, clone_f _ (by omega)]
      rfl
    · rw [if_neg z, if_neg z]
def btw (x y : List Int × Int) : Int × Int := if x.2 = 0 then (if y.2 = 0 then (if two x.1 y.1 = 0 then ((mo x.1 0 y.1 0 0 0).1, 0) else (0, two x.1 y.1)) else (0, y.2)) else (0, x.2)
theorem between_k (a0 a1 : ByteArray) (a2 a3 a4 a5 a6 a7 a8 a9 : Int) (f b : List Int) (t : Bool) (c0 c1 : ByteArray) (c2 c3 c4 c5 c6 c7 c8 c9 : Int) (f' b' : List Int) (t' : Bool) {k : Nat} (hk : 100 ≤ k) :
    c_Between.f k a0 a1 a2 a3 a4 a5 a6 a7 a8 a9 f b t c0 c1 c2 c3 c4 c5 c6 c7 c8 c9 f' b' t' = some (btw (face f b t) (face f' b' t')) := by
  unfold c_Between.f btw
  rw [face_k _ _ _ _ _ _ _ _ _ _ _ _ _ hk, face_k _ _ _ _ _ _ _ _ _ _ _ _ _ hk]
  simp only [Option.bind_some]
  by_cases h1 : (face f b t).2 = 0
  · rw [if_pos h1, if_pos h1]
    by_cases h2 : (face f' b' t').2 = 0
    · rw [if_pos h2, if_pos h2, Mismatch_k _ _ hk]
      rfl
    · rw [if_neg h2, if_neg h2]
  · rw [if_neg h1, if_neg h1]
theorem rdT_app (p s : List S62) (e : S62) : rd_T62 (p ++ e :: s) (p.length : Int) = e := by
  simp [rd_T62, List.getD_eq_getElem?_getD]
theorem len_app {α : Type} (p s : List α) (e : α) : ((p.length : Nat) : Int) < ((p ++ e :: s).length : Int) := by simp; omega
theorem app_snoc {α : Type} (p s : List α) (e : α) : p ++ e :: s = (p ++ [e]) ++ s := by simp
theorem len_snoc {α : Type} (p : List α) (e : α) : ((p ++ [e]).length : Int) = (p.length : Int) + 1 := by simp
theorem Ev.eq {α : Type} {g : Nat → Option α} {r s : α} (h : Ev g r) (e : r = s) : Ev g s := e ▸ h
theorem Ev.const {α : Type} {g : Nat → Option α} {r : α} (h : ∀ k, g k = some r) : Ev g r := ⟨0, fun k _ => h k⟩
theorem Ev.const1 {α : Type} {g : Nat → Option α} {r : α} (h : ∀ k, g (k + 1) = some r) : Ev g r := ⟨1, fun k hk => by
  obtain ⟨m, rfl⟩ : ∃ m, k = m + 1 := ⟨k - 1, by omega⟩
  exact h m⟩
theorem Ev.late {α : Type} {g : Nat → Option α} {r : α} (K : Nat) (h : ∀ k, K ≤ k → g k = some r) : Ev g r := ⟨K, h⟩
theorem rdm {l : List S62} {i : Int} (h0 : 0 ≤ i) (h1 : i < l.length) : rd_T62 l i ∈ l := by
  have h : i.toNat < l.length := by omega
  simp [rd_T62, List.getD_eq_getElem?_getD, List.getElem?_eq_getElem h]

def ckA : List S62 → Int
  | [] => 0
  | s :: r => if chk s.f5 = 0 then (if chk s.f6 = 0 then ckA r else chk s.f6) else chk s.f5
def eqL (n : Int) (s : S62) : Bool := decide ((s.f5.length : Int) = n) && decide ((s.f6.length : Int) = n)
def ckB (l s : List S62) : Int := if s.all (eqL (rd_T62 l 0).f5.length) = true then 0 else 1
def ck (l : List S62) : Int := if (l.length : Int) > 64 then 7 else if (l.length : Int) = 0 then 1 else if ckA l = 0 then ckB l l else ckA l
theorem chk_ev (xs : List Int) : Ev (fun k => c_Check.f k xs) (chk xs) := Ev.late 100 fun k hk => check_k xs hk
theorem rchk_ev (xs : List Int) : Ev (fun k => rg_Check.f k xs) (chk xs) := Ev.late 100 fun k hk => rcheck_k xs hk
theorem check_1 (s : S62) (n : Int) : m_check_1.f s.f0 s.f1 s.f2 s.f3.f0.f0 s.f3.f0.f1 s.f3.f0.f2 s.f3.f1.f0 s.f3.f1.f1 s.f3.f1.f2 s.f4 s.f5 s.f6 n = some (!(eqL n s)) := by
  unfold m_check_1.f eqL
  by_cases h : (s.f5.length : Int) = n
  · rw [if_pos h]
    by_cases h2 : (s.f6.length : Int) = n <;> simp [h, h2]
  · rw [if_neg h]; simp [h]
theorem idx52 (n : Int) : ∀ (s p : List S62), (p ++ s).length ≤ 1000 → ∃ r, Ev (fun k => s_52_by_bookmatch_check_1.l0 k (p ++ s) ((p ++ s).length : Int) (p.length : Int) n) r ∧ (decide (r ≥ 0) = !(s.all (eqL n)))
  | [], p, hl => ⟨-1, Ev.const1 fun k => by simp only [s_52_by_bookmatch_check_1.l0]; rw [if_neg (by simp)], by simp⟩
  | e :: s, p, hl => by
    have hs : ∀ k, s_52_by_bookmatch_check_1.l0 (k + 1) (p ++ e :: s) ((p ++ e :: s).length : Int) (p.length : Int) n = if (!(eqL n e)) = true then some (p.length : Int) else s_52_by_bookmatch_check_1.l0 k (p ++ e :: s) ((p ++ e :: s).length : Int) (wrap64 ((p.length : Int) + 1)) n := fun k => by
      simp only [s_52_by_bookmatch_check_1.l0]
      rw [if_pos (len_app p s e), if_pos (by omega), if_pos (len_app p s e), rdT_app, check_1]
      rfl
    by_cases hb : eqL n e = true
    · have hw : wrap64 ((p.length : Int) + 1) = ((p ++ [e]).length : Int) := by rw [wr (by simp at hl; omega), len_snoc]
      obtain ⟨r, h, hr⟩ := idx52 n s (p ++ [e]) (by simpa using hl)
      rw [← app_snoc] at h
      refine ⟨r, Ev.step (fun k => ?_) h, by rw [hr]; simp [hb]⟩
      rw [hs, hb, if_neg (by simp), hw]
    · refine ⟨p.length, Ev.const1 fun k => ?_, by simp [hb]⟩
      rw [hs, if_pos (by simp [hb])]
theorem cont_ev (l : List S62) (n : Int) (hl : l.length ≤ 1000) : Ev (fun k => s_46_by_bookmatch_check_1.f k l n) (!(l.all (eqL n))) := by
  obtain ⟨r, h, hr⟩ := idx52 n l [] (by simpa using hl)
  unfold s_46_by_bookmatch_check_1.f
  refine Ev.bind (a := r) (f := fun k t => some (decide (t ≥ 0))) h ?_
  exact Ev.const fun k => by rw [hr]
theorem check0 (l : List S62) (h1 : 1 ≤ l.length) (h2 : l.length ≤ 64) : ∀ (s p : List S62), l = p ++ s → Ev (fun k => m_check.l0 k l l (l.length : Int) (p.length : Int)) (if ckA s = 0 then ckB l l else ckA s)
  | [], p, hp => by
    have hz : ¬ ((p.length : Int) < (l.length : Int)) := by rw [hp]; simp
    refine Ev.step (f := fun k => (s_46_by_bookmatch_check_1.f k l (((rd_T62 l 0).f5).length : Int)).bind fun t121 => (if t121 = true then (some 1) else (some 0))) (fun k => by
      simp only [m_check.l0]
      rw [if_neg hz, if_pos (by omega)]) ?_
    refine Ev.bind (f := fun k t => if t = true then some 1 else some 0) (cont_ev l _ (by omega)) (Ev.const fun k => ?_)
    simp only [ckA, ckB, if_true]
    cases l.all (eqL (rd_T62 l 0).f5.length) <;> simp
  | e :: s, p, hp => by
    have hz : (p.length : Int) < (l.length : Int) := by rw [hp]; exact len_app p s e
    have he : rd_T62 l (p.length : Int) = e := by rw [hp]; exact rdT_app p s e
    have hw : wrap64 ((p.length : Int) + 1) = ((p ++ [e]).length : Int) := by rw [wr (by omega), len_snoc]
    have ih := check0 l h1 h2 s (p ++ [e]) (by rw [hp, app_snoc])
    refine Ev.step (f := fun k => m_check.l1 k l l (l.length : Int) (p.length : Int) [e.f5, e.f6] 2 0) (fun k => by
      simp only [m_check.l0]
      rw [if_pos hz, if_pos (by omega), if_pos hz, he]
      rfl) ?_
    refine Ev.step (f := fun k => (c_Check.f k e.f5).bind fun t => if t = 0 then m_check.l1 k l l (l.length : Int) (p.length : Int) [e.f5, e.f6] 2 1 else some t) (fun k => by simp only [m_check.l1]; rw [if_pos (by omega), if_pos (by omega), if_pos (by simp), show wrap64 ((0 : Int) + 1) = 1 from by decide +kernel]; rfl) ?_
    refine Ev.bind (f := fun k t => if t = 0 then m_check.l1 k l l (l.length : Int) (p.length : Int) [e.f5, e.f6] 2 1 else some t) (chk_ev e.f5) ?_
    by_cases c1 : chk e.f5 = 0
    · simp only [ckA, c1, if_true]
      refine Ev.step (f := fun k => (c_Check.f k e.f6).bind fun t => if t = 0 then m_check.l1 k l l (l.length : Int) (p.length : Int) [e.f5, e.f6] 2 2 else some t) (fun k => by simp only [m_check.l1]; rw [if_pos (by omega), if_pos (by omega), if_pos (by simp), show wrap64 ((1 : Int) + 1) = 2 from by decide +kernel]; rfl) ?_
      refine Ev.bind (f := fun k t => if t = 0 then m_check.l1 k l l (l.length : Int) (p.length : Int) [e.f5, e.f6] 2 2 else some t) (chk_ev e.f6) ?_
      by_cases c2 : chk e.f6 = 0
      · simp only [c2, if_true]
        refine Ev.step (f := fun k => m_check.l0 k l l (l.length : Int) (wrap64 ((p.length : Int) + 1))) (fun k => by simp only [m_check.l1]; rw [if_neg (by omega)]) ?_
        rw [hw]; exact ih
      · simp only [if_neg c2]
        exact Ev.const fun k => rfl
    · simp only [ckA, if_neg c1]
      exact Ev.const fun k => rfl
theorem ck_ev (l : List S62) : Ev (fun k => m_check.f k l) (ck l) := by
  unfold m_check.f ck
  by_cases h1 : (l.length : Int) > 64
  · exact Ev.const fun k => by rw [if_pos h1, if_pos h1]
  · by_cases h2 : (l.length : Int) = 0
    · exact Ev.const fun k => by rw [if_neg h1, if_neg h1, if_pos h2, if_pos h2]
    · simp only [if_neg h1, if_neg h2]
      exact check0 l (by omega) (by omega) l [] rfl
theorem rcheckB (l : List S62) (h1 : 1 ≤ l.length) (h2 : l.length ≤ 64) : ∀ (s p : List S62), l = p ++ s → Ev (fun k => rf_Check.l1 k l (p.length : Int)) (ckB l s)
  | [], p, hp => Ev.const1 fun k => by
    simp only [rf_Check.l1]
    rw [if_neg (by rw [hp]; simp)]; rfl
  | e :: s, p, hp => by
    have hz : (p.length : Int) < (l.length : Int) := by rw [hp]; exact len_app p s e
    have he : rd_T62 l (p.length : Int) = e := by rw [hp]; exact rdT_app p s e
    have hw : wrap64 ((p.length : Int) + 1) = ((p ++ [e]).length : Int) := by rw [wr (by omega), len_snoc]
    have ih := rcheckB l h1 h2 s (p ++ [e]) (by rw [hp, app_snoc])
    have hs : ∀ k, rf_Check.l1 (k + 1) l (p.length : Int) = if (e.f5.length : Int) = ((rd_T62 l 0).f5.length : Int) then (if (e.f6.length : Int) = ((rd_T62 l 0).f5.length : Int) then rf_Check.l1 k l (wrap64 ((p.length : Int) + 1)) else some 1) else some 1 := fun k => by
      simp only [rf_Check.l1]
      rw [if_pos hz, if_pos (by omega), if_pos (by omega), he]
    by_cases c1 : (e.f5.length : Int) = ((rd_T62 l 0).f5.length : Int)
    · by_cases c2 : (e.f6.length : Int) = ((rd_T62 l 0).f5.length : Int)
      · refine Ev.step (f := fun k => rf_Check.l1 k l ((p ++ [e]).length : Int)) (fun k => by rw [hs, if_pos c1, if_pos c2, hw]) (Ev.eq ih ?_)
        simp [ckB, eqL, c1, c2]
      · refine Ev.const1 fun k => by rw [hs, if_pos c1, if_neg c2]; simp [ckB, eqL, c2]
    · refine Ev.const1 fun k => by rw [hs, if_neg c1]; simp [ckB, eqL, c1]
theorem rcheckA (l : List S62) (h1 : 1 ≤ l.length) (h2 : l.length ≤ 64) : ∀ (s p : List S62), l = p ++ s → Ev (fun k => rf_Check.l0 k l (p.length : Int)) (if ckA s = 0 then ckB l l else ckA s)
  | [], p, hp => by
    refine Ev.step (f := fun k => rf_Check.l1 k l 0) (fun k => by
      simp only [rf_Check.l0]
      rw [if_neg (by rw [hp]; simp)]) ?_
    simp only [ckA, if_true]
    exact rcheckB l h1 h2 l [] rfl
  | e :: s, p, hp => by
    have hz : (p.length : Int) < (l.length : Int) := by rw [hp]; exact len_app p s e
    have he : rd_T62 l (p.length : Int) = e := by rw [hp]; exact rdT_app p s e
    have hw : wrap64 ((p.length : Int) + 1) = ((p ++ [e]).length : Int) := by rw [wr (by omega), len_snoc]
    have ih := rcheckA l h1 h2 s (p ++ [e]) (by rw [hp, app_snoc])
    refine Ev.step (f := fun k => (rg_Check.f k e.f5).bind fun t => if t = 0 then ((rg_Check.f k e.f6).bind fun t => if t = 0 then rf_Check.l0 k l ((p ++ [e]).length : Int) else some t) else some t) (fun k => by
      simp only [rf_Check.l0]
      rw [if_pos hz, if_pos (by omega), he, hw]) ?_
    refine Ev.bind (f := fun k t => if t = 0 then ((rg_Check.f k e.f6).bind fun t => if t = 0 then rf_Check.l0 k l ((p ++ [e]).length : Int) else some t) else some t) (rchk_ev e.f5) ?_
    by_cases c1 : chk e.f5 = 0
    · simp only [ckA, c1, if_true]
      refine Ev.bind (f := fun k t => if t = 0 then rf_Check.l0 k l ((p ++ [e]).length : Int) else some t) (rchk_ev e.f6) ?_
      by_cases c2 : chk e.f6 = 0
      · simp only [c2, if_true]
        exact ih
      · simp only [if_neg c2]
        exact Ev.const fun k => rfl
    · simp only [ckA, if_neg c1]
      exact Ev.const fun k => rfl
theorem rck_ev (l : List S62) : Ev (fun k => rf_Check.f k l) (ck l) := by
  unfold rf_Check.f ck
  by_cases h1 : (l.length : Int) > 64
  · exact Ev.const fun k => by rw [if_pos h1, if_pos h1]
  · by_cases h2 : (l.length : Int) = 0
    · exact Ev.const fun k => by rw [if_neg h1, if_neg h1, if_pos h2, if_pos h2]
    · simp only [if_neg h1, if_neg h2]
      exact rcheckA l (by omega) (by omega) l [] rfl

structure Ok (l : List S62) : Prop where
  n1 : 1 ≤ l.length
  n2 : l.length ≤ 64
  g : ∀ s ∈ l, Good s.f5 ∧ Good s.f6 ∧ s.f5.length = (rd_T62 l 0).f5.length ∧ s.f6.length = (rd_T62 l 0).f5.length
theorem ckA_good : ∀ (l : List S62), ckA l = 0 → ∀ s ∈ l, Good s.f5 ∧ Good s.f6
  | e :: l, h, s, hs => by
    simp only [ckA] at h
    by_cases c1 : chk e.f5 = 0
    · rw [if_pos c1] at h
      by_cases c2 : chk e.f6 = 0
      · rw [if_pos c2] at h
        rcases List.mem_cons.1 hs with rfl | hs
        · exact ⟨(good_iff _).1 c1, (good_iff _).1 c2⟩
        · exact ckA_good l h s hs
      · rw [if_neg c2] at h; exact absurd h c2
    · rw [if_neg c1] at h; exact absurd h c1
theorem ok_of {l : List S62} (h : ck l = 0) : Ok l := by
  unfold ck at h
  by_cases h1 : (l.length : Int) > 64
  · rw [if_pos h1] at h; omega
  · rw [if_neg h1] at h
    by_cases h2 : (l.length : Int) = 0
    · rw [if_pos h2] at h; omega
    · rw [if_neg h2] at h
      by_cases h3 : ckA l = 0
      · rw [if_pos h3] at h
        unfold ckB at h
        by_cases h4 : l.all (eqL (rd_T62 l 0).f5.length) = true
        · refine ⟨by omega, by omega, fun s hs => ?_⟩
          have := List.all_eq_true.1 h4 s hs
          simp [eqL] at this
          exact ⟨(ckA_good l h3 s hs).1, (ckA_good l h3 s hs).2, by omega, by omega⟩
        · rw [if_neg h4] at h; omega
      · rw [if_neg h3] at h; exact absurd h h3
def cd (s : S62) (t : Bool) : List Int := if t = true then s.f6.reverse else s.f5
def J (l : List S62) (a : Int) (t : Bool) (b : Int) (u : Bool) : Int := ds (cd (rd_T62 l a) t) (cd (rd_T62 l b) u)
theorem good_rev {a : List Int} (h : Good a) : Good a.reverse := (good_iff _).1 (by rw [chk_reverse]; exact (good_iff _).2 h)
theorem cd_good {l : List S62} (h : Ok l) {i : Int} (h0 : 0 ≤ i) (h1 : i < l.length) (t : Bool) : Good (cd (rd_T62 l i) t) ∧ (cd (rd_T62 l i) t).length = (rd_T62 l 0).f5.length := by
  have g := h.g _ (rdm h0 h1)
  unfold cd
  split
  · exact ⟨good_rev g.2.1, by rw [List.length_reverse]; exact g.2.2.2⟩
  · exact ⟨g.1, g.2.2.1⟩
theorem ds_bd : ∀ (a b : List Int), okB a = true → okB b = true → 0 ≤ ds a b ∧ ds a b ≤ 1000 * a.length
  | x :: xs, y :: ys, ha, hb => by
    obtain ⟨hx, hxs⟩ := okB_cons ha
    obtain ⟨hy, hys⟩ := okB_cons hb
    have := ds_bd xs ys hxs hys
    have := ab_bd hx hy
    simp only [ds, List.length_cons]
    omega
  | [], [], _, _ => by simp [ds]
  | [], _ :: _, _, _ => by simp [ds]
  | _ :: _, [], _, _ => by simp [ds]; omega
theorem J_bd {l : List S62} (h : Ok l) {a b : Int} (a0 : 0 ≤ a) (a1 : a < l.length) (b0 : 0 ≤ b) (b1 : b < l.length) (t u : Bool) : 0 ≤ J l a t b u ∧ J l a t b u ≤ 64000 := by
  have ga := (cd_good h a0 a1 t).1
  have gb := (cd_good h b0 b1 u).1
  have := ds_bd _ _ ga.ok gb.ok
  have := ga.hi
  unfold J
  omega
theorem face_cd {s : S62} (h : Good s.f5) (h' : Good s.f6) (t : Bool) : face s.f5 s.f6 t = (cd s t, 0) := by
  unfold face cd
  rw [if_pos ((good_iff _).2 h), if_pos ((good_iff _).2 h')]
  split <;> rfl
theorem btw_ev {l : List S62} (h : Ok l) {a b : Int} (a0 : 0 ≤ a) (a1 : a < l.length) (b0 : 0 ≤ b) (b1 : b < l.length) (t u : Bool) : Ev (fun k => m_between.f k l a t b u) (J l a t b u) := by
  have ga := cd_good h a0 a1 t
  have gb := cd_good h b0 b1 u
  have sa := h.g _ (rdm a0 a1)
  have sb := h.g _ (rdm b0 b1)
  refine Ev.late 100 fun k hk => ?_
  unfold m_between.f
  rw [if_pos a0, if_pos a1, if_pos b0, if_pos b1, between_k _ _ _ _ _ _ _ _ _ _ _ _ _ _ _ _ _ _ _ _ _ _ _ _ _ _ hk, face_cd sa.1 sa.2.1, face_cd sb.1 sb.2.1]
  have ht : two (cd (rd_T62 l a) t) (cd (rd_T62 l b) u) = 0 := (two_iff _ _).2 ⟨ga.1, gb.1, by rw [ga.2, gb.2]⟩
  simp only [btw, if_true, ht, Option.bind_some, mo_ds0 _ _ (ga.2.trans gb.2.symm)]
  rfl
theorem rcode0 (a0_0 a0_1 : ByteArray) (a2 a3 a4 a5 a6 a7 a8 a9 : Int) (f b : List Int) (hb : b.length ≤ 1000) : ∀ (n : Nat) (acc : List Int), n ≤ b.length → acc = (b.drop n).reverse →
    Ev (fun k => rf_code.l0 k acc ((n : Int) - 1) a0_0 a0_1 a2 a3 a4 a5 a6 a7 a8 a9 f b) b.reverse
  | 0, acc, _, ha => Ev.const1 fun k => by
    simp only [rf_code.l0]
    rw [if_neg (by omega), ha]; simp
  | n + 1, acc, hn, ha => by
    have hrd : rd b (((n + 1 : Nat) : Int) - 1) = b[n]'(by omega) := by
      have : (((n + 1 : Nat) : Int) - 1).toNat = n := by omega
      simp [rd, this, List.getD_eq_getElem?_getD, List.getElem?_eq_getElem (show n < b.length by omega)]
    have hl : acc.length < 17592186044416 := by rw [ha]; simp; omega
    have hd : b.drop n = b[n]'(by omega) :: b.drop (n + 1) := List.drop_eq_getElem_cons (by omega)
    refine Ev.step (f := fun k => rf_code.l0 k (acc ++ [b[n]'(by omega)]) ((n : Int) - 1) a0_0 a0_1 a2 a3 a4 a5 a6 a7 a8 a9 f b) (fun k => by
      simp only [rf_code.l0]
      rw [if_pos (by omega), if_pos (by omega), if_pos (by omega), if_pos hl, hrd, show wrap64 (((n + 1 : Nat) : Int) - 1 - 1) = (n : Int) - 1 from by rw [wr (by omega)]; omega]) ?_
    exact rcode0 a0_0 a0_1 a2 a3 a4 a5 a6 a7 a8 a9 f b hb n _ (by omega) (by rw [hd, List.reverse_cons, ha])
theorem rcode_ev (s : S62) (t : Bool) (hb : s.f6.length ≤ 1000) : Ev (fun k => rf_code.f k s.f0 s.f1 s.f2 s.f3.f0.f0 s.f3.f0.f1 s.f3.f0.f2 s.f3.f1.f0 s.f3.f1.f1 s.f3.f1.f2 s.f4 s.f5 s.f6 t) (cd s t) := by
  unfold rf_code.f cd
  by_cases h : t = true
  · simp only [if_pos h]
    rw [wr (by omega)]
    exact rcode0 _ _ _ _ _ _ _ _ _ _ _ _ hb _ _ (Nat.le_refl _) (by simp)
  · simp only [if_neg h]
    exact Ev.const fun k => rfl
theorem rjoint0 {a b : List Int} (ha : Good a) (hb : Good b) (hl : a.length = b.length) : ∀ (m : Nat) (i s : Int), 0 ≤ i → i + m = a.length → 0 ≤ s → s ≤ 1000 * i → Ev (fun k => rf_Joint.l0 k a b s i) (s + ds (a.drop i.toNat) (b.drop i.toNat))
  | 0, i, s, h0, h1, h2, h3 => Ev.const1 fun k => by
    simp only [rf_Joint.l0]
    rw [if_neg (by omega), drop_end (by omega), drop_end (by omega)]
    simp [ds]
  | m + 1, i, s, h0, h1, h2, h3 => by
    have hh := ha.hi
    have ra := okB_rd ha.ok h0 (by omega)
    have rb := okB_rd hb.ok h0 (by omega)
    have hab := ab_bd ra rb
    have hx : mx (wrap64 (rd a i - rd b i)) (wrap64 (-(wrap64 (rd a i - rd b i)))) = ab (rd a i) (rd b i) := by
      rw [wr (x := rd a i - rd b i) (by omega), wr (by omega)]
      unfold mx ab
      grind
    have ih := rjoint0 ha hb hl m (i + 1) (s + ab (rd a i) (rd b i)) (by omega) (by omega) (by omega) (by omega)
    refine Ev.step (f := fun k => rf_Joint.l0 k a b (s + ab (rd a i) (rd b i)) (i + 1)) (fun k => by
      simp only [rf_Joint.l0]
      rw [if_pos (by omega), if_pos h0, if_pos (by omega), hx, wr (x := i + 1) (by omega), wr (by omega)]) (Ev.eq ih ?_)
    rw [drop_rd h0 (by omega), drop_rd (xs := b) h0 (by omega)]
    simp only [ds]
    omega
theorem rjoint_ev {l : List S62} (h : Ok l) {a b : Int} (a0 : 0 ≤ a) (a1 : a < l.length) (b0 : 0 ≤ b) (b1 : b < l.length) (t u : Bool) : Ev (fun k => rf_Joint.f k l a t b u) (J l a t b u) := by
  have ga := cd_good h a0 a1 t
  have gb := cd_good h b0 b1 u
  have sa := h.g _ (rdm a0 a1)
  have sb := h.g _ (rdm b0 b1)
  have la := sa.2.1.hi
  have lb := sb.2.1.hi
  unfold rf_Joint.f
  simp only [if_pos a0, if_pos a1, if_pos b0, if_pos b1]
  refine Ev.bind (f := fun k t402 => (rf_code.f k ((rd_T62 l b).f0) ((rd_T62 l b).f1) ((rd_T62 l b).f2) ((rd_T62 l b).f3.f0.f0) ((rd_T62 l b).f3.f0.f1) ((rd_T62 l b).f3.f0.f2) ((rd_T62 l b).f3.f1.f0) ((rd_T62 l b).f3.f1.f1) ((rd_T62 l b).f3.f1.f2) ((rd_T62 l b).f4) ((rd_T62 l b).f5) ((rd_T62 l b).f6) u).bind fun t406 => (rf_Joint.l0 k t402 t406 0 0)) (rcode_ev (rd_T62 l a) t (by omega)) ?_
  refine Ev.bind (f := fun k t406 => (rf_Joint.l0 k _ t406 0 0)) (rcode_ev (rd_T62 l b) u (by omega)) ?_
  refine Ev.eq (rjoint0 ga.1 gb.1 (by rw [ga.2, gb.2]) (cd (rd_T62 l a) t).length 0 0 (by omega) (by omega) (by omega) (by omega)) ?_
  simp [J]

theorem i10 : ¬ (1 : Int) = 0 := by decide
def th (s : S39) : S68 := ⟨s.f0, s.f1⟩
theorem r39_app (p s : List S39) (e : S39) : rd_T39 (p ++ e :: s) (p.length : Int) = e := by simp [rd_T39, List.getD_eq_getElem?_getD]
theorem r68_app (p s : List S68) (e : S68) : rd_T68 (p ++ e :: s) (p.length : Int) = e := by simp [rd_T68, List.getD_eq_getElem?_getD]
def costR (l : List S62) : List S39 → Int
  | a :: b :: r => J l a.f0 a.f1 b.f0 b.f1 + costR l (b :: r)
  | _ => 0
def In (l : List S62) (row : List S39) : Prop := ∀ x ∈ row, 0 ≤ x.f0 ∧ x.f0 < l.length
theorem cost0 {l : List S62} (h : Ok l) (row : List S39) (hi : In l row) (hl : row.length ≤ 1000) : ∀ (s p : List S39) (a : S39) (acc : Int), row = p ++ a :: s → 0 ≤ acc → acc ≤ 64000 * p.length → Ev (fun k => m_cost.l0 k l row acc ((p.length : Int) + 1)) (acc + costR l (a :: s))
  | [], p, a, acc, hp, h0, h1 => Ev.const1 fun k => by
    simp only [m_cost.l0]
    rw [if_neg (by rw [hp]; simp)]; simp [costR]
  | b :: s, p, a, acc, hp, h0, h1 => by
    have hla : row.length = p.length + (s.length + 1) + 1 := by rw [hp]; simp; omega
    have ha := hi a (by rw [hp]; simp)
    have hb := hi b (by rw [hp]; simp)
    have hj := J_bd h ha.1 ha.2 hb.1 hb.2 a.f1 b.f1
    have ra : rd_T39 row (p.length : Int) = a := by rw [hp]; exact r39_app p (b :: s) a
    have rb : rd_T39 row ((p.length : Int) + 1) = b := by rw [hp, app_snoc, ← len_snoc p a]; exact r39_app (p ++ [a]) s b
    have ih := cost0 h row hi hl s (p ++ [a]) b (acc + J l a.f0 a.f1 b.f0 b.f1) (by rw [hp, app_snoc]) (by omega) (by rw [List.length_append]; simp; omega)
    refine Ev.step (f := fun k => (m_between.f k l a.f0 a.f1 b.f0 b.f1).bind fun t => m_cost.l0 k l row (wrap64 (acc + t)) ((p ++ [a]).length + 1)) (fun k => by
      simp only [m_cost.l0]
      rw [if_pos (by omega), wr (x := (p.length : Int) + 1 - 1) (by omega), show (p.length : Int) + 1 - 1 = p.length by omega, if_pos (by omega), if_pos (by omega), if_pos (by omega), ra, rb, wr (x := (p.length : Int) + 1 + 1) (by omega), len_snoc]) ?_
    refine Ev.bind (f := fun k t => m_cost.l0 k l row (wrap64 (acc + t)) ((p ++ [a]).length + 1)) (btw_ev h ha.1 ha.2 hb.1 hb.2 a.f1 b.f1) ?_
    rw [wr (x := acc + _) (by omega)]
    refine Ev.eq ih ?_
    simp only [costR]; omega
theorem cost_ev {l : List S62} (h : Ok l) (row : List S39) (hi : In l row) (hl : row.length ≤ 1000) : Ev (fun k => m_cost.f k l row) (costR l row) := by
  unfold m_cost.f
  cases row with
  | nil => exact Ev.const1 fun k => by simp only [m_cost.l0]; rw [if_neg (by simp)]; rfl
  | cons a s => exact Ev.eq (cost0 h _ hi hl s [] a 0 rfl (by omega) (by simp)) (by simp)
theorem r68_map (row : List S39) (i : Int) (h0 : 0 ≤ i) (h1 : i < row.length) : rd_T68 (row.map th) i = th (rd_T39 row i) := by
  have h : i.toNat < row.length := by omega
  simp [rd_T68, rd_T39, List.getD_eq_getElem?_getD, h]
theorem rcost0 {l : List S62} (h : Ok l) (row : List S39) (hi : In l row) (hl : row.length ≤ 1000) : ∀ (s p : List S39) (a : S39) (acc : Int), row = p ++ a :: s → 0 ≤ acc → acc ≤ 64000 * p.length → Ev (fun k => rf_Cost.l0 k l (row.map th) acc ((p.length : Int) + 1)) (acc + costR l (a :: s))
  | [], p, a, acc, hp, h0, h1 => Ev.const1 fun k => by
    simp only [rf_Cost.l0]
    rw [if_neg (by rw [hp]; simp)]; simp [costR]
  | b :: s, p, a, acc, hp, h0, h1 => by
    have hla : row.length = p.length + (s.length + 1) + 1 := by rw [hp]; simp; omega
    have hlm : (row.map th).length = row.length := List.length_map ..
    have ha := hi a (by rw [hp]; simp)
    have hb := hi b (by rw [hp]; simp)
    have hj := J_bd h ha.1 ha.2 hb.1 hb.2 a.f1 b.f1
    have ra : rd_T68 (row.map th) (p.length : Int) = th a := by rw [r68_map _ _ (by omega) (by omega)]; rw [hp]; rw [r39_app p (b :: s) a]
    have rb : rd_T68 (row.map th) ((p.length : Int) + 1) = th b := by rw [r68_map _ _ (by omega) (by omega), hp, app_snoc, ← len_snoc p a, r39_app (p ++ [a]) s b]
    have ih := rcost0 h row hi hl s (p ++ [a]) b (acc + J l a.f0 a.f1 b.f0 b.f1) (by rw [hp, app_snoc]) (by omega) (by rw [List.length_append]; simp; omega)
    refine Ev.step (f := fun k => (rf_Joint.f k l a.f0 a.f1 b.f0 b.f1).bind fun t => rf_Cost.l0 k l (row.map th) (wrap64 (acc + t)) ((p ++ [a]).length + 1)) (fun k => by
      simp only [rf_Cost.l0]
      rw [if_pos (by omega), wr (x := (p.length : Int) + 1 - 1) (by omega), show (p.length : Int) + 1 - 1 = p.length by omega, if_pos (by omega), if_pos (by omega), if_pos (by omega), ra, rb, wr (x := (p.length : Int) + 1 + 1) (by omega), len_snoc]
      rfl) ?_
    refine Ev.bind (f := fun k t => rf_Cost.l0 k l (row.map th) (wrap64 (acc + t)) ((p ++ [a]).length + 1)) (rjoint_ev h ha.1 ha.2 hb.1 hb.2 a.f1 b.f1) ?_
    rw [wr (x := acc + _) (by omega)]
    refine Ev.eq ih ?_
    simp only [costR]; omega
theorem rcost_ev {l : List S62} (h : Ok l) (row : List S39) (hi : In l row) (hl : row.length ≤ 1000) : Ev (fun k => rf_Cost.f k l (row.map th)) (costR l row) := by
  unfold rf_Cost.f
  cases row with
  | nil => exact Ev.const1 fun k => by simp only [rf_Cost.l0]; rw [if_neg (by simp)]; rfl
  | cons a s => exact Ev.eq (rcost0 h _ hi hl s [] a 0 rfl (by omega) (by simp)) (by simp)
theorem few0 (l : List S62) (hl : l.length ≤ 70) : ∀ (m : Nat) (i : Int), 0 ≤ i → i + m = l.length → ∃ b, Ev (fun k => rf_Few.l0 k l i) b
  | 0, i, h0, h1 => ⟨true, Ev.const1 fun k => by
    simp only [rf_Few.l0]
    rw [if_neg (by omega)]⟩
  | m + 1, i, h0, h1 => by
    obtain ⟨b, ih⟩ := few0 l hl m (i + 1) (by omega) (by omega)
    have hs : ∀ k, rf_Few.l0 (k + 1) l i = if (((rd_T62 l i).f5).length : Int) > 70 then some false else if (((rd_T62 l i).f6).length : Int) > 70 then some false else rf_Few.l0 k l (i + 1) := fun k => by
      simp only [rf_Few.l0]
      rw [if_pos (by omega), if_pos h0, wr (by omega)]
    by_cases q1 : (((rd_T62 l i).f5).length : Int) > 70
    · exact ⟨false, Ev.const1 fun k => by rw [hs, if_pos q1]⟩
    · by_cases q2 : (((rd_T62 l i).f6).length : Int) > 70
      · exact ⟨false, Ev.const1 fun k => by rw [hs, if_neg q1, if_pos q2]⟩
      · exact ⟨b, Ev.step (fun k => by rw [hs, if_neg q1, if_neg q2]) ih⟩
theorem few_ev (l : List S62) (n : Int) (hn : n ≤ 70) : ∃ b, Ev (fun k => rf_Few.f k l n) b ∧ (b = true → (l.length : Int) ≤ n ∨ 64 < (l.length : Int)) ∧ (b = true → l.length ≤ 70) := by
  unfold rf_Few.f
  by_cases h1 : (l.length : Int) > n
  · by_cases h2 : (l.length : Int) ≤ 64
    · exact ⟨false, Ev.const1 fun k => by rw [if_pos h1, if_pos h2]; rfl, by simp, by simp⟩
    · by_cases h3 : (l.length : Int) > 70
      · exact ⟨false, Ev.const1 fun k => by rw [if_pos h1, if_neg h2, decide_eq_true h3]; rfl, by simp, by simp⟩
      · obtain ⟨b, hb⟩ := few0 l (by omega) l.length 0 (by omega) (by omega)
        exact ⟨b, Ev.step (fun k => by rw [if_pos h1, if_neg h2, decide_eq_false h3]; rfl) hb, fun _ => by omega, fun _ => by omega⟩
  · by_cases h3 : (l.length : Int) > 70
    · omega
    · obtain ⟨b, hb⟩ := few0 l (by omega) l.length 0 (by omega) (by omega)
      exact ⟨b, Ev.step (fun k => by rw [if_neg h1, decide_eq_false h3]; rfl) hb, fun _ => by omega, fun _ => by omega⟩

theorem awake150 : lw_awake.f 150 = some true := by decide +kernel
theorem awake_ev : Ev (fun k => lw_awake.f k) true := Ev.of (fun k => lw_awake.mono k) awake150
theorem awk {α : Type} {g : Nat → Bool → Option α} {r : α} (h : Ev (fun k => g k true) r) : Ev (fun k => (lw_awake.f k).bind fun t => g k t) r := Ev.bind (f := fun k t => g k t) awake_ev h
theorem awk1 : Ev (fun k => (lw_awake.f k).bind fun t => (some t : Option Bool)) true := awk (g := fun k t => some t) (Ev.now true)
def ho (s : S68) : S39 := ⟨s.f0, s.f1⟩
theorem th_ho (row : List S68) : (row.map ho).map th = row := by
  rw [List.map_map]
  exact (List.map_congr_left (fun x _ => rfl)).trans (List.map_id row)
theorem okRow_in (n : Int) : ∀ (r : List S39) (s : List Int), okRow n r s = true → ∀ x ∈ r, 0 ≤ x.f0 ∧ x.f0 < n
  | [], _, _, x, hx => by simp at hx
  | y :: r, s, h, x, hx => by
    simp only [okRow] at h
    by_cases q1 : y.f0 < 0
    · rw [if_pos q1] at h; simp at h
    · rw [if_neg q1] at h
      by_cases q2 : y.f0 ≥ n
      · rw [if_pos q2] at h; simp at h
      · rw [if_neg q2] at h
        by_cases q3 : y.f0 ∈ s
        · rw [if_pos q3] at h; simp at h
        · rw [if_neg q3] at h
          rcases List.mem_cons.1 hx with rfl | hx
          · omega
          · exact okRow_in n r _ h x hx
theorem Cost_ev (l : List S62) (row : List S39) (hl : row.length ≤ 1000) : Ev (fun k => m_Cost.f k l row) (if ck l = 0 then (if okRow l.length row [] = true then (costR l row, 0) else (0, 1)) else (0, ck l)) := by
  unfold m_Cost.f
  refine Ev.bind (f := fun k t => (if t = 0 then (if okRow (l.length : Int) row [] = true then ((m_cost.f k l row).bind fun c => (some (c, 0))) else (some (0, 1))) else (some (0, t)))) (ck_ev l) ?_
  by_cases h : ck l = 0
  · simp only [if_pos h]
    by_cases q : okRow (l.length : Int) row [] = true
    · simp only [if_pos q]
      exact Ev.bind (f := fun k c => (some (c, (0 : Int)))) (cost_ev (ok_of h) row (okRow_in _ _ _ q) hl) (Ev.now _)
    · simp only [if_neg q]; exact Ev.now _
  · simp only [if_neg h]; exact Ev.now _
theorem ours0 (row : List S68) (hl : row.length ≤ 1000) : ∀ (s p : List S68), row = p ++ s → Ev (fun k => lw_ours.l0 k row (p.map ho) (p.length : Int)) (row.map ho)
  | [], p, hp => Ev.const1 fun k => by
    simp only [lw_ours.l0]
    rw [if_neg (by rw [hp]; simp), hp]; simp
  | a :: s, p, hp => by
    have hla : row.length = p.length + s.length + 1 := by rw [hp]; simp; omega
    have ra : rd_T68 row (p.length : Int) = a := by rw [hp]; exact r68_app p s a
    refine Ev.step (f := fun k => lw_ours.l0 k row ((p ++ [a]).map ho) ((p ++ [a]).length : Int)) (fun k => by
      simp only [lw_ours.l0]
      rw [if_pos (by omega), if_pos (by omega), if_pos (by simp; omega), ra, wr (by omega), len_snoc, List.map_append]
      rfl) ?_
    exact ours0 row hl s (p ++ [a]) (by rw [hp, app_snoc])
theorem ours_ev (row : List S68) (hl : row.length ≤ 1000) : Ev (fun k => lw_ours.f k row) (row.map ho) := ours0 row hl row [] rfl
theorem rrow1 (l : List S62) (R : List S68) (hl : R.length ≤ 1000) (p s : List S68) (x : S68) (hR : R = p ++ x :: s) {r : Bool} : ∀ (q' q : List S68), p = q ++ q' → (x.f0 ∈ q'.map (·.f0) → r = false) → (x.f0 ∉ q'.map (·.f0) → Ev (fun k => rf_Row.l0 k l R ((p ++ [x]).length : Int)) r) →
    Ev (fun k => rf_Row.l1 k l R (p.length : Int) (q.length : Int)) r
  | [], q, hq, _, h2 => by
    have hla : R.length = p.length + s.length + 1 := by rw [hR]; simp; omega
    refine Ev.step (fun k => ?_) (h2 (by simp))
    simp only [rf_Row.l1]
    rw [if_neg (by rw [hq]; simp), wr (by omega), len_snoc]
  | y :: q', q, hq, h1, h2 => by
    have hla : R.length = p.length + s.length + 1 := by rw [hR]; simp; omega
    have hqa : p.length = q.length + q'.length + 1 := by rw [hq]; simp; omega
    have ry : rd_T68 R (q.length : Int) = y := by rw [hR, hq, List.append_assoc]; exact r68_app q _ y
    have rx : rd_T68 R (p.length : Int) = x := by rw [hR]; exact r68_app p s x
    have hs : ∀ k, rf_Row.l1 (k + 1) l R (p.length : Int) (q.length : Int) = if y.f0 = x.f0 then some false else rf_Row.l1 k l R (p.length : Int) ((q ++ [y]).length : Int) := fun k => by
      simp only [rf_Row.l1]
      rw [if_pos (by omega), if_pos (by omega), if_pos (by omega), if_pos (by omega), if_pos (by omega), ry, rx, wr (by omega), len_snoc]
    by_cases q1 : y.f0 = x.f0
    · rw [h1 (by simp [q1])]
      exact Ev.const1 fun k => by rw [hs, if_pos q1]
    · refine Ev.step (fun k => by rw [hs, if_neg q1]) (rrow1 l R hl p s x hR q' (q ++ [y]) (by rw [hq, app_snoc]) (fun z => h1 ?_) (fun z => h2 ?_))
      · rw [List.map_cons]; exact List.mem_cons_of_mem _ z
      · rw [List.map_cons, List.mem_cons]; exact fun w => w.elim (fun e => q1 e.symm) z
theorem okRow_ho (n : Int) (x : S68) (r : List S39) (s : List Int) : okRow n (ho x :: r) s = if x.f0 < 0 then false else if x.f0 ≥ n then false else if x.f0 ∈ s then false else okRow n r (x.f0 :: s) := rfl
theorem rrow0 (l : List S62) (R : List S68) (hl : R.length ≤ 1000) (hn : l.length ≤ 1000) : ∀ (s p : List S68) (S : List Int), R = p ++ s → (∀ y, y ∈ S ↔ y ∈ p.map (·.f0)) → Ev (fun k => rf_Row.l0 k l R (p.length : Int)) (okRow l.length (s.map ho) S)
  | [], p, S, hR, _ => Ev.const1 fun k => by
    simp only [rf_Row.l0]
    rw [if_neg (by rw [hR]; simp)]; rfl
  | x :: s, p, S, hR, hS => by
    have hla : R.length = p.length + s.length + 1 := by rw [hR]; simp; omega
    have rx : rd_T68 R (p.length : Int) = x := by rw [hR]; exact r68_app p s x
    have ih := rrow0 l R hl hn s (p ++ [x]) (x.f0 :: S) (by rw [hR, app_snoc]) (fun y => by simp [hS y, or_comm])
    rw [List.map_cons, okRow_ho]
    refine Ev.step (f := fun k => rf_Row.j1 k l R (p.length : Int) (decide (x.f0 < 0) || decide (x.f0 ≥ (l.length : Int)))) (fun k => by
      simp only [rf_Row.l0]
      rw [if_pos (by omega), if_pos (by omega), rx]
      by_cases q : x.f0 < 0 <;> simp [q]) ?_
    by_cases q1 : x.f0 < 0
    · rw [if_pos q1]
      exact Ev.const1 fun k => by simp [rf_Row.j1, q1]
    · by_cases q2 : x.f0 ≥ (l.length : Int)
      · rw [if_neg q1, if_pos q2]
        exact Ev.const1 fun k => by simp only [rf_Row.j1, decide_eq_true q2, Bool.or_true, if_true]
      · rw [if_neg q1, if_neg q2]
        refine Ev.step (f := fun k => rf_Row.l1 k l R (p.length : Int) (([] : List S68).length : Int)) (fun k => by simp only [rf_Row.j1, decide_eq_false q1, decide_eq_false q2, Bool.or_false, Bool.false_eq_true, if_false]; rfl) ?_
        refine rrow1 l R hl p s x hR p [] rfl (fun z => ?_) (fun z => ?_)
        · rw [if_pos ((hS x.f0).2 z)]
        · rw [if_neg (fun w => z ((hS x.f0).1 w))]
          exact ih
theorem rrow_ev (l : List S62) (R : List S68) (hl : R.length ≤ 1000) (hn : l.length ≤ 1000) : Ev (fun k => rf_Row.f k l R) (okRow l.length (R.map ho) []) := rrow0 l R hl hn R [] [] rfl (by simp)

end Go.Proofs.YtglkcinmohjblaaDoor.XA
