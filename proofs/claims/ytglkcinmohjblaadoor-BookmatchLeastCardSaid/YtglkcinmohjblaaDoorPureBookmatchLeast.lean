import Derived.Test.YtglkcinmohjblaaDoorXAx34
import Derived.Test.YtglkcinmohjblaaDoorXAx37
import Derived.Test.YtglkcinmohjblaaDoorXAx43
import Derived.Test.YtglkcinmohjblaaDoorXAx44
import Derived.Test.YtglkcinmohjblaaDoorXAx56
import Derived.Test.YtglkcinmohjblaaDoorXAx39
import Derived.Test.YtglkcinmohjblaaDoorXAx40
import Derived.Test.YtglkcinmohjblaaDoorXAx55
set_option linter.unusedVariables false
set_option linter.unusedSimpArgs false
namespace Go.Proofs.YtglkcinmohjblaaDoor.XA
set_option linter.unusedVariables false
set_option linter.unusedSimpArgs false
open Go.RowKit Opens YtglkcinmohjblaaDoorW.PrintWords YtglkcinmohjblaaDoorW.PrintLast YtglkcinmohjblaaDoorW.PrintMore
theorem wr {x : Int} (h : -9223372036854775808 ≤ x ∧ x ≤ 9223372036854775807) : wrap64 x = x := by unfold wrap64; omega
theorem rd_at {xs : List Int} {i : Int} (h0 : 0 ≤ i) (h1 : i < xs.length) : ∃ h : i.toNat < xs.length, rd xs i = xs[i.toNat] := by
  have h : i.toNat < xs.length := by omega
  refine ⟨h, ?_⟩
  unfold rd
  rw [List.getD_eq_getElem?_getD, List.getElem?_eq_getElem h]
  rfl
theorem rd_mem {xs : List Int} {i : Int} (h0 : 0 ≤ i) (h1 : i < xs.length) : rd xs i ∈ xs := by
  obtain ⟨h, e⟩ := rd_at h0 h1
  rw [e]; exact List.getElem_mem h
theorem mem_rd {xs : List Int} {x : Int} (h : x ∈ xs) : ∃ i : Int, 0 ≤ i ∧ i < xs.length ∧ rd xs i = x := by
  obtain ⟨n, hn, e⟩ := List.mem_iff_getElem.1 h
  refine ⟨n, by omega, by omega, ?_⟩
  obtain ⟨h', e'⟩ := rd_at (xs := xs) (i := n) (by omega) (by omega)
  rw [e', ← e]; rfl
theorem rd_ext {xs ys : List Int} (hl : xs.length = ys.length) (h : ∀ i : Int, 0 ≤ i → i < xs.length → rd xs i = rd ys i) : xs = ys := by
  apply List.ext_getElem hl
  intro n h1 h2
  have := h n (by omega) (by omega)
  obtain ⟨_, e1⟩ := rd_at (xs := xs) (i := n) (by omega) (by omega)
  obtain ⟨_, e2⟩ := rd_at (xs := ys) (i := n) (by omega) (by omega)
  rw [e1, e2] at this
  exact this
theorem rd_reverse {xs : List Int} {i : Int} (h0 : 0 ≤ i) (h1 : i < xs.length) : rd xs.reverse i = rd xs (xs.length - 1 - i) := by
  obtain ⟨_, e1⟩ := rd_at (xs := xs.reverse) (i := i) h0 (by rw [List.length_reverse]; omega)
  obtain ⟨_, e2⟩ := rd_at (xs := xs) (i := xs.length - 1 - i) (by omega) (by omega)
  rw [e1, e2, List.getElem_reverse]
  congr 1
  omega
theorem rd_set {xs : List Int} {i j v : Int} (h0 : 0 ≤ i) (h1 : i < xs.length) (hj0 : 0 ≤ j) (hj : j < xs.length) : rd (xs.set i.toNat v) j = if j = i then v else rd xs j := by
  obtain ⟨_, e1⟩ := rd_at (xs := xs.set i.toNat v) (i := j) hj0 (by rw [List.length_set]; omega)
  obtain ⟨_, e2⟩ := rd_at (xs := xs) (i := j) hj0 hj
  rw [e1, e2, List.getElem_set]
  by_cases e : j = i
  · subst e; simp
  · rw [if_neg (by omega), if_neg e]
def okB (xs : List Int) : Bool := xs.all fun x => decide (0 ≤ x ∧ x ≤ 1000)
theorem okB_rd {xs : List Int} (h : okB xs = true) {i : Int} (h0 : 0 ≤ i) (h1 : i < xs.length) : 0 ≤ rd xs i ∧ rd xs i ≤ 1000 := by
  unfold okB at h
  rw [List.all_eq_true] at h
  simpa using h _ (rd_mem h0 h1)
theorem okB_of {xs : List Int} (h : ∀ i : Int, 0 ≤ i → i < xs.length → 0 ≤ rd xs i ∧ rd xs i ≤ 1000) : okB xs = true := by
  unfold okB
  rw [List.all_eq_true]
  intro x hx
  obtain ⟨i, h0, h1, e⟩ := mem_rd hx
  have := h i h0 h1
  rw [e] at this
  simpa using this
theorem okB_not {xs : List Int} (h : okB xs = false) : ∃ i : Int, 0 ≤ i ∧ i < xs.length ∧ ¬ (0 ≤ rd xs i ∧ rd xs i ≤ 1000) := by
  by_cases q : ∃ i : Int, 0 ≤ i ∧ i < xs.length ∧ ¬ (0 ≤ rd xs i ∧ rd xs i ≤ 1000)
  · exact q
  · have : okB xs = true := okB_of fun i h0 h1 => Classical.byContradiction fun c => q ⟨i, h0, h1, c⟩
    rw [this] at h; cases h
def chk (xs : List Int) : Int := if 1 ≤ xs.length ∧ xs.length ≤ 64 then (if okB xs = true then 0 else 6) else 1
theorem min0 (xs : List Int) (hl : xs.length ≤ 64) : ∀ (m : Nat) (i acc : Int) (k : Nat), 0 ≤ i → i + m = xs.length → m < k →
    ∃ r, slices_Min_int_int.l0 k xs acc i = some r ∧ (r < 0 ↔ acc < 0 ∨ ∃ j, i ≤ j ∧ j < xs.length ∧ rd xs j < 0) := by
  intro m
  induction m with
  | zero =>
    intro i acc k h0 hm hk
    obtain ⟨k, rfl⟩ : ∃ q, k = q + 1 := ⟨k - 1, by omega⟩
    simp only [slices_Min_int_int.l0]
    rw [if_neg (by omega)]
    refine ⟨acc, rfl, fun h => .inl h, ?_⟩
    rintro (h | ⟨j, h1, h2, _⟩)
    · exact h
    · omega
  | succ m ih =>
    intro i acc k h0 hm hk
    obtain ⟨k, rfl⟩ : ∃ q, k = q + 1 := ⟨k - 1, by omega⟩
    simp only [slices_Min_int_int.l0]
    rw [if_pos (by omega), if_pos h0, wr (x := i + 1) (by omega)]
    obtain ⟨r, h1, h2⟩ := ih (i + 1) (mn acc (rd xs i)) k (by omega) (by omega) (by omega)
    refine ⟨r, h1, h2.trans ⟨?_, ?_⟩⟩
    · rintro (h | ⟨j, q1, q2, q3⟩)
      · unfold mn at h
        split at h
        · exact .inr ⟨i, by omega, by omega, h⟩
        · exact .inl h
      · exact .inr ⟨j, by omega, q2, q3⟩
    · rintro (h | ⟨j, q1, q2, q3⟩)
      · left; unfold mn; split <;> omega
      · by_cases e : j = i
        · subst e; left; unfold mn; split <;> omega
        · exact .inr ⟨j, by omega, q2, q3⟩
theorem max0 (xs : List Int) (hl : xs.length ≤ 64) : ∀ (m : Nat) (i acc : Int) (k : Nat), 0 ≤ i → i + m = xs.length → m < k →
    ∃ r, slices_Max_int_int.l0 k xs acc i = some r ∧ (r > 1000 ↔ acc > 1000 ∨ ∃ j, i ≤ j ∧ j < xs.length ∧ rd xs j > 1000) := by
  intro m
  induction m with
  | zero =>
    intro i acc k h0 hm hk
    obtain ⟨k, rfl⟩ : ∃ q, k = q + 1 := ⟨k - 1, by omega⟩
    simp only [slices_Max_int_int.l0]
    rw [if_neg (by omega)]
    refine ⟨acc, rfl, fun h => .inl h, ?_⟩
    rintro (h | ⟨j, h1, h2, _⟩)
    · exact h
    · omega
  | succ m ih =>
    intro i acc k h0 hm hk
    obtain ⟨k, rfl⟩ : ∃ q, k = q + 1 := ⟨k - 1, by omega⟩
    simp only [slices_Max_int_int.l0]
    rw [if_pos (by omega), if_pos h0, wr (x := i + 1) (by omega)]
    obtain ⟨r, h1, h2⟩ := ih (i + 1) (mx acc (rd xs i)) k (by omega) (by omega) (by omega)
    refine ⟨r, h1, h2.trans ⟨?_, ?_⟩⟩
    · rintro (h | ⟨j, q1, q2, q3⟩)
      · unfold mx at h
        split at h
        · exact .inr ⟨i, by omega, by omega, h⟩
        · exact .inl h
      · exact .inr ⟨j, by omega, q2, q3⟩
    · rintro (h | ⟨j, q1, q2, q3⟩)
      · left; unfold mx; split <;> omega
      · by_cases e : j = i
        · subst e; left; unfold mx; split <;> omega
        · exact .inr ⟨j, by omega, q2, q3⟩
theorem check_f (xs : List Int) (j : Nat) : c_Check.f (100 + j) xs = some (chk xs) := by
  unfold c_Check.f chk
  rw [show 100 + j = 99 + j + 1 by omega]
  simp only [c_Check.j0]
  by_cases h1 : (xs.length : Int) < 1
  · simp only [if_pos h1, if_true]
    rw [if_neg (by omega)]
  · rw [if_neg h1]
    by_cases h2 : (xs.length : Int) > 64
    · rw [if_pos (by simpa using h2), if_neg (by omega)]
    · rw [if_neg (by simpa using h2), if_pos (by omega)]
      unfold slices_Min_int_int.f slices_Max_int_int.f
      rw [if_neg h1, if_neg h1, if_pos (by omega), if_pos (by omega)]
      obtain ⟨a, e1, p1⟩ := min0 xs (by omega) (xs.length - 1) 1 (rd xs 0) (99 + j) (by omega) (by omega) (by omega)
      obtain ⟨b, e2, p2⟩ := max0 xs (by omega) (xs.length - 1) 1 (rd xs 0) (99 + j) (by omega) (by omega) (by omega)
      rw [e1, e2]
      simp only [Option.bind_some]
      by_cases ok : okB xs = true
      · have z : ∀ i : Int, 0 ≤ i → i < xs.length → 0 ≤ rd xs i ∧ rd xs i ≤ 1000 := fun i => okB_rd ok
        have n1 : ¬ a < 0 := by
          intro h
          rcases p1.1 h with h | ⟨j, q1, q2, q3⟩
          · have := z 0 (by omega) (by omega); omega
          · have := z j (by omega) (by omega); omega
        have n2 : ¬ b > 1000 := by
          intro h
          rcases p2.1 h with h | ⟨j, q1, q2, q3⟩
          · have := z 0 (by omega) (by omega); omega
          · have := z j (by omega) (by omega); omega
        rw [if_neg n1, if_neg n2, if_pos ok]
      · obtain ⟨i, q1, q2, q3⟩ := okB_not (by simpa using ok)
        rw [if_neg ok]
        by_cases n1 : a < 0
        · rw [if_pos n1]
        · rw [if_neg n1]
          have n2 : b > 1000 := by
            apply p2.2
            by_cases e : i = 0
            · subst e
              left
              by_cases u : rd xs 0 < 0
              · exact absurd (p1.2 (.inl u)) n1
              · omega
            · right
              refine ⟨i, by omega, by omega, ?_⟩
              by_cases u : rd xs i < 0
              · exact absurd (p1.2 (.inr ⟨i, by omega, by omega, u⟩)) n1
              · omega
          rw [if_pos n2]

theorem clone_f (xs : List Int) (hl : xs.length ≤ 1000) : slices_Clone_int_int.f xs = some xs := by
  unfold slices_Clone_int_int.f
  simp only [Option.bind_some, List.length_nil, List.nil_append]
  rw [if_pos (by omega)]
theorem rev0 (xs : List Int) (hl : xs.length ≤ 1000) : ∀ (m : Nat) (i : Int) (ys : List Int) (k : Nat), 0 ≤ i → 2 * i + m = xs.length + 1 ∨ (m = 0 ∧ 2 * i = xs.length + 1) → m < k → ys.length = xs.length →
    (∀ j : Int, 0 ≤ j → j < xs.length → rd ys j = if j < i ∨ j > xs.length - 1 - i then rd xs (xs.length - 1 - j) else rd xs j) → slices_Reverse_int_int.l0 k ys i (xs.length - 1 - i) = some xs.reverse := by
  intro m
  induction m using Nat.strongRecOn with
  | _ m ih =>
    intro i ys k h0 hm hk hy hinv
    obtain ⟨k, rfl⟩ : ∃ q, k = q + 1 := ⟨k - 1, by omega⟩
    simp only [slices_Reverse_int_int.l0]
    by_cases c : i < xs.length - 1 - i
    · have c1 : (0 : Int) ≤ xs.length - 1 - i := by omega
      have c2 : (xs.length : Int) - 1 - i < (ys.length : Int) := by omega
      have c3 : i < (ys.length : Int) := by omega
      simp only [c, c1, c2, c3, h0, if_true]
      rw [wr (x := i + 1) (by omega), wr (x := (xs.length : Int) - 1 - i - 1) (by omega), show (xs.length : Int) - 1 - i - 1 = xs.length - 1 - (i + 1) by omega]
      refine ih (m - 2) (by omega) (i + 1) _ k (by omega) (by omega) (by omega) (by simp [hy]) ?_
      intro j hj0 hj1
      rw [rd_set c1 (by rw [List.length_set]; exact c2) hj0 (by rw [List.length_set]; omega), rd_set h0 c3 hj0 (by omega)]
      have e1 := hinv i h0 (by omega)
      have e2 := hinv (xs.length - 1 - i) c1 (by omega)
      have e3 := hinv j hj0 hj1
      rw [if_neg (by omega)] at e1 e2
      by_cases q1 : j = xs.length - 1 - i
      · subst q1
        rw [if_pos rfl, if_pos (by omega), e1, show (xs.length : Int) - 1 - (xs.length - 1 - i) = i by omega]
      · rw [if_neg q1]
        by_cases q2 : j = i
        · subst q2
          rw [if_pos rfl, if_pos (by omega), e2]
        · rw [if_neg q2, e3]
          by_cases q3 : j < i ∨ j > xs.length - 1 - i
          · rw [if_pos q3, if_pos (by omega)]
          · rw [if_neg q3, if_neg (by omega)]
    · rw [if_neg c]
      congr 1
      apply rd_ext (by rw [hy, List.length_reverse])
      intro j hj0 hj1
      rw [hinv j hj0 (by omega), rd_reverse hj0 (by omega)]
      by_cases q3 : j < i ∨ j > xs.length - 1 - i
      · rw [if_pos q3]
      · rw [if_neg q3, show j = xs.length - 1 - j by omega, show (xs.length : Int) - 1 - (xs.length - 1 - j) = j by omega]
        congr 1
        omega
theorem mirror_f (xs : List Int) (hl : xs.length ≤ 90) (j : Nat) : c_mirror.f (100 + j) xs = some xs.reverse := by
  unfold c_mirror.f slices_Reverse_int_int.f
  rw [clone_f xs (by omega)]
  simp only [Option.bind_some]
  rw [wr (by omega)]
  have := rev0 xs (by omega) (xs.length + 1) 0 xs (100 + j) (by omega) (by omega) (by omega) rfl (fun j h0 h1 => by rw [if_neg (by omega)])
  rw [show (xs.length : Int) - 1 - 0 = xs.length - 1 by omega] at this
  rw [this]
  rfl
theorem Mirror_f (xs : List Int) (j : Nat) : c_Mirror.f (100 + j) xs = some (if chk xs = 0 then (xs.reverse, 0) else ([], chk xs)) := by
  unfold c_Mirror.f
  rw [check_f]
  simp only [Option.bind_some]
  by_cases h : chk xs = 0
  · have hl : xs.length ≤ 64 := by unfold chk at h; split at h <;> omega
    rw [if_pos h, if_pos h, mirror_f xs (by omega)]
    rfl
  · rw [if_neg h, if_neg h]
structure Good (a : List Int) : Prop where
  lo : 1 ≤ a.length
  hi : a.length ≤ 64
  ok : okB a = true
theorem good_iff (a : List Int) : chk a = 0 ↔ Good a := by
  unfold chk
  constructor
  · intro h
    split at h
    · next q =>
      split at h
      · next p => exact ⟨q.1, q.2, p⟩
      · omega
    · omega
  · rintro ⟨h1, h2, h3⟩
    rw [if_pos ⟨h1, h2⟩, if_pos h3]
def two (a b : List Int) : Int := if chk a = 0 then (if chk b = 0 then (if a.length = b.length then 0 else 1) else chk b) else chk a
theorem two_iff (a b : List Int) : two a b = 0 ↔ Good a ∧ Good b ∧ a.length = b.length := by
  unfold two
  by_cases h1 : chk a = 0
  · rw [if_pos h1]
    by_cases h2 : chk b = 0
    · rw [if_pos h2]
      have g1 := (good_iff a).1 h1
      have g2 := (good_iff b).1 h2
      constructor
      · intro h; refine ⟨g1, g2, ?_⟩; split at h <;> omega
      · rintro ⟨_, _, h⟩; rw [if_pos h]
    · rw [if_neg h2]
      exact ⟨fun h => absurd h h2, fun h => absurd ((good_iff b).2 h.2.1) h2⟩
  · rw [if_neg h1]
    exact ⟨fun h => absurd h h1, fun h => absurd ((good_iff a).2 h.1) h1⟩
theorem both_f (a b : List Int) (j : Nat) : c_both.f (100 + j) a b = some (two a b) := by
  unfold c_both.f two
  rw [check_f, check_f]
  simp only [Option.bind_some]
  by_cases h1 : chk a = 0
  · rw [if_pos h1, if_pos h1]
    by_cases h2 : chk b = 0
    · rw [if_pos h2, if_pos h2]
      by_cases h3 : a.length = b.length
      · rw [if_pos h3, if_pos (by omega)]
      · rw [if_neg h3, if_neg (by omega)]
    · rw [if_neg h2, if_neg h2]
  · rw [if_neg h1, if_neg h1]
def ab (x y : Int) : Int := if x > y then x - y else y - x
def mo (a : List Int) (b : Int) : List Int → Int → Int → Int → Int × Int
  | [], _, s, n => (s, n)
  | y :: ys, i, s, n => if 0 ≤ i + b ∧ i + b < a.length then mo a b ys (i + 1) (s + ab (rd a (i + b)) y) (n + 1) else mo a b ys (i + 1) s n
theorem okB_cons {y : Int} {ys : List Int} (h : okB (y :: ys) = true) : (0 ≤ y ∧ y ≤ 1000) ∧ okB ys = true := by
  unfold okB at *
  simp only [List.all_cons, Bool.and_eq_true, decide_eq_true_eq] at h
  exact h
theorem mm_mo (a : List Int) (ha : Good a) (b : Int) (hb : -64 ≤ b ∧ b ≤ 64) : ∀ (ys : List Int) (i s n : Int), okB ys = true → 0 ≤ i → i + ys.length ≤ 64 → 0 ≤ s → s ≤ 1000 * i → 0 ≤ n → n ≤ i →
    mm a b ys i s n = mo a b ys i s n
  | [], i, s, n, _, _, _, _, _, _, _ => rfl
  | y :: ys, i, s, n, hy, h0, hi, hs0, hs, hn0, hn => by
    obtain ⟨hy1, hy2⟩ := okB_cons hy
    simp only [List.length_cons] at hi
    unfold mm mo
    rw [wr (x := i + b) (by omega)]
    by_cases h : 0 ≤ i + b ∧ i + b < a.length
    · rw [if_pos h, if_pos h]
      have hr := okB_rd ha.ok h.1 h.2
      have e : mx (wrap64 (rd a (i + b) - y)) (wrap64 (y - rd a (i + b))) = ab (rd a (i + b)) y := by
        rw [wr (by omega), wr (by omega)]; unfold mx ab; split <;> split <;> omega
      have hab : 0 ≤ ab (rd a (i + b)) y ∧ ab (rd a (i + b)) y ≤ 1000 := by unfold ab; split <;> omega
      rw [e, wr (by omega), wr (by omega)]
      exact mm_mo a ha b hb ys _ _ _ hy2 (by omega) (by omega) (by omega) (by omega) (by omega) (by omega)
    · rw [if_neg h, if_neg h]
      exact mm_mo a ha b hb ys _ _ _ hy2 (by omega) (by omega) (by omega) (by omega) (by omega) (by omega)
theorem mismatch_f {a b : List Int} (ha : Good a) (hb : Good b) {d : Int} (h : -64 ≤ d ∧ d ≤ 64) : c_mismatch.f a b d = some (mo a d b 0 0 0) := by
  unfold c_mismatch.f
  rw [mm_mo a ha d h b 0 0 0 hb.ok (by omega) (by have := hb.hi; omega) (by omega) (by omega) (by omega) (by omega)]
theorem Mismatch_f (a b : List Int) (j : Nat) : c_Mismatch.f (100 + j) a b = some (if two a b = 0 then ((mo a 0 b 0 0 0).1, 0) else (0, two a b)) := by
  unfold c_Mismatch.f
  rw [both_f]
  simp only [Option.bind_some]
  by_cases h : two a b = 0
  · obtain ⟨ha, hb, hl⟩ := (two_iff a b).1 h
    rw [if_pos h, if_pos h, mismatch_f ha hb (by omega)]
    rfl
  · rw [if_neg h, if_neg h]
theorem drop_rd {xs : List Int} {i : Int} (h0 : 0 ≤ i) (h1 : i < xs.length) : xs.drop i.toNat = rd xs i :: xs.drop (i + 1).toNat := by
  obtain ⟨h, e⟩ := rd_at h0 h1
  rw [e, show (i + 1).toNat = i.toNat + 1 by omega]
  exact List.drop_eq_getElem_cons h
theorem mo_cons (a : List Int) (b y : Int) (ys : List Int) (i s n : Int) : mo a b (y :: ys) i s n = if 0 ≤ i + b ∧ i + b < a.length then mo a b ys (i + 1) (s + ab (rd a (i + b)) y) (n + 1) else mo a b ys (i + 1) s n := rfl
theorem ab_bd {x y : Int} (hx : 0 ≤ x ∧ x ≤ 1000) (hy : 0 ≤ y ∧ y ≤ 1000) : 0 ≤ ab x y ∧ ab x y ≤ 1000 := by unfold ab; split <;> omega
theorem kj {k : Nat} (n : Nat) (h : n ≤ k) : ∃ j, k = n + j := Nat.exists_eq_add_of_le h
theorem check_k (xs : List Int) {k : Nat} (hk : 100 ≤ k) : c_Check.f k xs = some (chk xs) := by obtain ⟨j, rfl⟩ := kj _ hk; exact check_f xs j
theorem Mirror_k (xs : List Int) {k : Nat} (hk : 100 ≤ k) : c_Mirror.f k xs = some (if chk xs = 0 then (xs.reverse, 0) else ([], chk xs)) := by obtain ⟨j, rfl⟩ := kj _ hk; exact Mirror_f xs j
theorem Mismatch_k (a b : List Int) {k : Nat} (hk : 100 ≤ k) : c_Mismatch.f k a b = some (if two a b = 0 then ((mo a 0 b 0 0 0).1, 0) else (0, two a b)) := by obtain ⟨j, rfl⟩ := kj _ hk; exact Mismatch_f a b j
def ds : List Int → List Int → Int
  | x :: xs, y :: ys => ab x y + ds xs ys
  | _, _ => 0
theorem mo_ds (a : List Int) : ∀ (ys : List Int) (i s n : Int), 0 ≤ i → i + ys.length ≤ a.length → (mo a 0 ys i s n).1 = s + ds (a.drop i.toNat) ys
  | [], i, s, n, _, _ => by
    simp only [mo]
    cases a.drop i.toNat <;> simp [ds]
  | y :: ys, i, s, n, h0, h1 => by
    simp only [List.length_cons] at h1
    rw [mo_cons, if_pos (by omega), mo_ds a ys _ _ _ (by omega) (by omega), drop_rd h0 (by omega), Int.add_zero]
    simp only [ds]
    omega
theorem mo_ds0 (a b : List Int) (h : a.length = b.length) : (mo a 0 b 0 0 0).1 = ds a b := by
  rw [mo_ds a b 0 0 0 (by omega) (by omega)]
  simp
theorem chk_reverse (a : List Int) : chk a.reverse = chk a := by
  unfold chk okB
  rw [List.length_reverse, List.all_reverse]
def face (f b : List Int) (t : Bool) : List Int × Int := if t = true then (if chk b = 0 then (b.reverse, 0) else ([], chk b)) else (if chk f = 0 then (f, 0) else ([], chk f))
theorem face_k (a0 a1 : ByteArray) (a2 a3 a4 a5 a6 a7 a8 a9 : Int) (f b : List Int) (t : Bool) {k : Nat} (hk : 100 ≤ k) : c_Face.f k a0 a1 a2 a3 a4 a5 a6 a7 a8 a9 f b t = some (face f b t) := by
  unfold c_Face.f face
  by_cases h : t = true
  · rw [if_pos h, if_pos h, Mirror_k _ hk]
    rfl
  · rw [if_neg h, if_neg h, check_k _ hk]
    simp only [Option.bind_some]
    by_cases z : chk f = 0
    · have g := ((good_iff f).1 z).hi
      rw [if_pos z, if_pos z, clone_f _ (by omega)]
      rfl
    · rw [if_neg z, if_neg z]
def btw (x y : List Int × Int) : Int × Int := if x.2 = 0 then (if y.2 = 0 then (if two x.1 y.1 = 0 then ((mo x.1 0 y.1 0 0 0).1, 0) else (0, two x.1 y.1)) else (0, y.2)) else (0, x.2)
theorem between_k (a0 a1 : ByteArray) (a2 a3 a4 a5 a6 a7 a8 a9 : Int) (f b : List Int) (t : Bool) (c0 c1 : ByteArray) (c2 c3 c4 c5 c6 c7 c8 c9 : Int) (f' b' : List Int) (t' : Bool) {k : Nat} (hk : 100 ≤ k) :
    c_Between.f k a0 a1 a2 a3 a4 a5 a6 a7 a8 a9 f b t c0 c1 c2 c3 c4 c5 c6 c7 c8 c9 f' b' t' = some (btw (face f b t) (face f' b' t')) := by
  unfold c_Between.f btw
  rw [face_k _ _ _ _ _ _ _ _ _ _ _ _ _ hk, face_k _ _ _ _ _ _ _ _ _ _ _ _ _ hk]
  simp only [Option.bind_some]
  by_cases h1 : (face f b t).2 = 0
  · rw [if_pos h1, if_pos h1]
    by_cases h2 : (face f' b' t').2 = 0
    · rw [if_pos h2, if_pos h2, Mismatch_k _ _ hk]
      rfl
    · rw [if_neg h2, if_neg h2]
  · rw [if_neg h1, if_neg h1]
theorem rdT_app (p s : List S62) (e : S62) : rd_T62 (p ++ e :: s) (p.length : Int) = e := by
  simp [rd_T62, List.getD_eq_getElem?_getD]
theorem len_app {α : Type} (p s : List α) (e : α) : ((p.length : Nat) : Int) < ((p ++ e :: s).length : Int) := by simp; omega
theorem app_snoc {α : Type} (p s : List α) (e : α) : p ++ e :: s = (p ++ [e]) ++ s := by simp
theorem len_snoc {α : Type} (p : List α) (e : α) : ((p ++ [e]).length : Int) = (p.length : Int) + 1 := by simp
theorem Ev.eq {α : Type} {g : Nat → Option α} {r s : α} (h : Ev g r) (e : r = s) : Ev g s := e ▸ h
theorem Ev.const {α : Type} {g : Nat → Option α} {r : α} (h : ∀ k, g k = some r) : Ev g r := ⟨0, fun k _ => h k⟩
theorem Ev.const1 {α : Type} {g : Nat → Option α} {r : α} (h : ∀ k, g (k + 1) = some r) : Ev g r := ⟨1, fun k hk => by
  obtain ⟨m, rfl⟩ : ∃ m, k = m + 1 := ⟨k - 1, by omega⟩
  exact h m⟩
theorem Ev.late {α : Type} {g : Nat → Option α} {r : α} (K : Nat) (h : ∀ k, K ≤ k → g k = some r) : Ev g r := ⟨K, h⟩
theorem rdm {l : List S62} {i : Int} (h0 : 0 ≤ i) (h1 : i < l.length) : rd_T62 l i ∈ l := by
  have h : i.toNat < l.length := by omega
  simp [rd_T62, List.getD_eq_getElem?_getD, List.getElem?_eq_getElem h]

def ckA : List S62 → Int
  | [] => 0
  | s :: r => if chk s.f5 = 0 then (if chk s.f6 = 0 then ckA r else chk s.f6) else chk s.f5
def eqL (n : Int) (s : S62) : Bool := decide ((s.f5.length : Int) = n) && decide ((s.f6.length : Int) = n)
def ckB (l s : List S62) : Int := if s.all (eqL (rd_T62 l 0).f5.length) = true then 0 else 1
def ck (l : List S62) : Int := if (l.length : Int) > 64 then 7 else if (l.length : Int) = 0 then 1 else if ckA l = 0 then ckB l l else ckA l
theorem chk_ev (xs : List Int) : Ev (fun k => c_Check.f k xs) (chk xs) := Ev.late 100 fun k hk => check_k xs hk
theorem check_1 (s : S62) (n : Int) : m_check_1.f s.f0 s.f1 s.f2 s.f3.f0.f0 s.f3.f0.f1 s.f3.f0.f2 s.f3.f1.f0 s.f3.f1.f1 s.f3.f1.f2 s.f4 s.f5 s.f6 n = some (!(eqL n s)) := by
  unfold m_check_1.f eqL
  by_cases h : (s.f5.length : Int) = n
  · rw [if_pos h]
    by_cases h2 : (s.f6.length : Int) = n <;> simp [h, h2]
  · rw [if_neg h]; simp [h]
theorem idx52 (n : Int) : ∀ (s p : List S62), (p ++ s).length ≤ 1000 → ∃ r, Ev (fun k => s_52_by_bookmatch_check_1.l0 k (p ++ s) ((p ++ s).length : Int) (p.length : Int) n) r ∧ (decide (r ≥ 0) = !(s.all (eqL n)))
  | [], p, hl => ⟨-1, Ev.const1 fun k => by simp only [s_52_by_bookmatch_check_1.l0]; rw [if_neg (by simp)], by simp⟩
  | e :: s, p, hl => by
    have hs : ∀ k, s_52_by_bookmatch_check_1.l0 (k + 1) (p ++ e :: s) ((p ++ e :: s).length : Int) (p.length : Int) n = if (!(eqL n e)) = true then some (p.length : Int) else s_52_by_bookmatch_check_1.l0 k (p ++ e :: s) ((p ++ e :: s).length : Int) (wrap64 ((p.length : Int) + 1)) n := fun k => by
      simp only [s_52_by_bookmatch_check_1.l0]
      rw [if_pos (len_app p s e), if_pos (by omega), if_pos (len_app p s e), rdT_app, check_1]
      rfl
    by_cases hb : eqL n e = true
    · have hw : wrap64 ((p.length : Int) + 1) = ((p ++ [e]).length : Int) := by rw [wr (by simp at hl; omega), len_snoc]
      obtain ⟨r, h, hr⟩ := idx52 n s (p ++ [e]) (by simpa using hl)
      rw [← app_snoc] at h
      refine ⟨r, Ev.step (fun k => ?_) h, by rw [hr]; simp [hb]⟩
      rw [hs, hb, if_neg (by simp), hw]
    · refine ⟨p.length, Ev.const1 fun k => ?_, by simp [hb]⟩
      rw [hs, if_pos (by simp [hb])]
theorem cont_ev (l : List S62) (n : Int) (hl : l.length ≤ 1000) : Ev (fun k => s_46_by_bookmatch_check_1.f k l n) (!(l.all (eqL n))) := by
  obtain ⟨r, h, hr⟩ := idx52 n l [] (by simpa using hl)
  unfold s_46_by_bookmatch_check_1.f
  refine Ev.bind (a := r) (f := fun k t => some (decide (t ≥ 0))) h ?_
  exact Ev.const fun k => by rw [hr]
theorem check0 (l : List S62) (h1 : 1 ≤ l.length) (h2 : l.length ≤ 64) : ∀ (s p : List S62), l = p ++ s → Ev (fun k => m_check.l0 k l l (l.length : Int) (p.length : Int)) (if ckA s = 0 then ckB l l else ckA s)
  | [], p, hp => by
    have hz : ¬ ((p.length : Int) < (l.length : Int)) := by rw [hp]; simp
    refine Ev.step (f := fun k => (s_46_by_bookmatch_check_1.f k l (((rd_T62 l 0).f5).length : Int)).bind fun t121 => (if t121 = true then (some 1) else (some 0))) (fun k => by
      simp only [m_check.l0]
      rw [if_neg hz, if_pos (by omega)]) ?_
    refine Ev.bind (f := fun k t => if t = true then some 1 else some 0) (cont_ev l _ (by omega)) (Ev.const fun k => ?_)
    simp only [ckA, ckB, if_true]
    cases l.all (eqL (rd_T62 l 0).f5.length) <;> simp
  | e :: s, p, hp => by
    have hz : (p.length : Int) < (l.length : Int) := by rw [hp]; exact len_app p s e
    have he : rd_T62 l (p.length : Int) = e := by rw [hp]; exact rdT_app p s e
    have hw : wrap64 ((p.length : Int) + 1) = ((p ++ [e]).length : Int) := by rw [wr (by omega), len_snoc]
    have ih := check0 l h1 h2 s (p ++ [e]) (by rw [hp, app_snoc])
    refine Ev.step (f := fun k => m_check.l1 k l l (l.length : Int) (p.length : Int) [e.f5, e.f6] 2 0) (fun k => by
      simp only [m_check.l0]
      rw [if_pos hz, if_pos (by omega), if_pos hz, he]
      rfl) ?_
    refine Ev.step (f := fun k => (c_Check.f k e.f5).bind fun t => if t = 0 then m_check.l1 k l l (l.length : Int) (p.length : Int) [e.f5, e.f6] 2 1 else some t) (fun k => by simp only [m_check.l1]; rw [if_pos (by omega), if_pos (by omega), if_pos (by simp), show wrap64 ((0 : Int) + 1) = 1 from by decide +kernel]; rfl) ?_
    refine Ev.bind (f := fun k t => if t = 0 then m_check.l1 k l l (l.length : Int) (p.length : Int) [e.f5, e.f6] 2 1 else some t) (chk_ev e.f5) ?_
    by_cases c1 : chk e.f5 = 0
    · simp only [ckA, c1, if_true]
      refine Ev.step (f := fun k => (c_Check.f k e.f6).bind fun t => if t = 0 then m_check.l1 k l l (l.length : Int) (p.length : Int) [e.f5, e.f6] 2 2 else some t) (fun k => by simp only [m_check.l1]; rw [if_pos (by omega), if_pos (by omega), if_pos (by simp), show wrap64 ((1 : Int) + 1) = 2 from by decide +kernel]; rfl) ?_
      refine Ev.bind (f := fun k t => if t = 0 then m_check.l1 k l l (l.length : Int) (p.length : Int) [e.f5, e.f6] 2 2 else some t) (chk_ev e.f6) ?_
      by_cases c2 : chk e.f6 = 0
      · simp only [c2, if_true]
        refine Ev.step (f := fun k => m_check.l0 k l l (l.length : Int) (wrap64 ((p.length : Int) + 1))) (fun k => by simp only [m_check.l1]; rw [if_neg (by omega)]) ?_
        rw [hw]; exact ih
      · simp only [if_neg c2]
        exact Ev.const fun k => rfl
    · simp only [ckA, if_neg c1]
      exact Ev.const fun k => rfl
theorem ck_ev (l : List S62) : Ev (fun k => m_check.f k l) (ck l) := by
  unfold m_check.f ck
  by_cases h1 : (l.length : Int) > 64
  · exact Ev.const fun k => by rw [if_pos h1, if_pos h1]
  · by_cases h2 : (l.length : Int) = 0
    · exact Ev.const fun k => by rw [if_neg h1, if_neg h1, if_pos h2, if_pos h2]
    · simp only [if_neg h1, if_neg h2]
      exact check0 l (by omega) (by omega) l [] rfl
structure Ok (l : List S62) : Prop where
  n1 : 1 ≤ l.length
  n2 : l.length ≤ 64
  g : ∀ s ∈ l, Good s.f5 ∧ Good s.f6 ∧ s.f5.length = (rd_T62 l 0).f5.length ∧ s.f6.length = (rd_T62 l 0).f5.length
theorem ckA_good : ∀ (l : List S62), ckA l = 0 → ∀ s ∈ l, Good s.f5 ∧ Good s.f6
  | e :: l, h, s, hs => by
    simp only [ckA] at h
    by_cases c1 : chk e.f5 = 0
    · rw [if_pos c1] at h
      by_cases c2 : chk e.f6 = 0
      · rw [if_pos c2] at h
        rcases List.mem_cons.1 hs with rfl | hs
        · exact ⟨(good_iff _).1 c1, (good_iff _).1 c2⟩
        · exact ckA_good l h s hs
      · rw [if_neg c2] at h; exact absurd h c2
    · rw [if_neg c1] at h; exact absurd h c1
theorem ok_of {l : List S62} (h : ck l = 0) : Ok l := by
  unfold ck at h
  by_cases h1 : (l.length : Int) > 64
  · rw [if_pos h1] at h; omega
  · rw [if_neg h1] at h
    by_cases h2 : (l.length : Int) = 0
    · rw [if_pos h2] at h; omega
    · rw [if_neg h2] at h
      by_cases h3 : ckA l = 0
      · rw [if_pos h3] at h
        unfold ckB at h
        by_cases h4 : l.all (eqL (rd_T62 l 0).f5.length) = true
        · refine ⟨by omega, by omega, fun s hs => ?_⟩
          have := List.all_eq_true.1 h4 s hs
          simp [eqL] at this
          exact ⟨(ckA_good l h3 s hs).1, (ckA_good l h3 s hs).2, by omega, by omega⟩
        · rw [if_neg h4] at h; omega
      · rw [if_neg h3] at h; exact absurd h h3
def cd (s : S62) (t : Bool) : List Int := if t = true then s.f6.reverse else s.f5
def J (l : List S62) (a : Int) (t : Bool) (b : Int) (u : Bool) : Int := ds (cd (rd_T62 l a) t) (cd (rd_T62 l b) u)
theorem good_rev {a : List Int} (h : Good a) : Good a.reverse := (good_iff _).1 (by rw [chk_reverse]; exact (good_iff _).2 h)
theorem cd_good {l : List S62} (h : Ok l) {i : Int} (h0 : 0 ≤ i) (h1 : i < l.length) (t : Bool) : Good (cd (rd_T62 l i) t) ∧ (cd (rd_T62 l i) t).length = (rd_T62 l 0).f5.length := by
  have g := h.g _ (rdm h0 h1)
  unfold cd
  split
  · exact ⟨good_rev g.2.1, by rw [List.length_reverse]; exact g.2.2.2⟩
  · exact ⟨g.1, g.2.2.1⟩
theorem ds_bd : ∀ (a b : List Int), okB a = true → okB b = true → 0 ≤ ds a b ∧ ds a b ≤ 1000 * a.length
  | x :: xs, y :: ys, ha, hb => by
    obtain ⟨hx, hxs⟩ := okB_cons ha
    obtain ⟨hy, hys⟩ := okB_cons hb
    have := ds_bd xs ys hxs hys
    have := ab_bd hx hy
    simp only [ds, List.length_cons]
    omega
  | [], [], _, _ => by simp [ds]
  | [], _ :: _, _, _ => by simp [ds]
  | _ :: _, [], _, _ => by simp [ds]; omega
theorem J_bd {l : List S62} (h : Ok l) {a b : Int} (a0 : 0 ≤ a) (a1 : a < l.length) (b0 : 0 ≤ b) (b1 : b < l.length) (t u : Bool) : 0 ≤ J l a t b u ∧ J l a t b u ≤ 64000 := by
  have ga := (cd_good h a0 a1 t).1
  have gb := (cd_good h b0 b1 u).1
  have := ds_bd _ _ ga.ok gb.ok
  have := ga.hi
  unfold J
  omega
theorem face_cd {s : S62} (h : Good s.f5) (h' : Good s.f6) (t : Bool) : face s.f5 s.f6 t = (cd s t, 0) := by
  unfold face cd
  rw [if_pos ((good_iff _).2 h), if_pos ((good_iff _).2 h')]
  split <;> rfl
theorem btw_ev {l : List S62} (h : Ok l) {a b : Int} (a0 : 0 ≤ a) (a1 : a < l.length) (b0 : 0 ≤ b) (b1 : b < l.length) (t u : Bool) : Ev (fun k => m_between.f k l a t b u) (J l a t b u) := by
  have ga := cd_good h a0 a1 t
  have gb := cd_good h b0 b1 u
  have sa := h.g _ (rdm a0 a1)
  have sb := h.g _ (rdm b0 b1)
  refine Ev.late 100 fun k hk => ?_
  unfold m_between.f
  rw [if_pos a0, if_pos a1, if_pos b0, if_pos b1, between_k _ _ _ _ _ _ _ _ _ _ _ _ _ _ _ _ _ _ _ _ _ _ _ _ _ _ hk, face_cd sa.1 sa.2.1, face_cd sb.1 sb.2.1]
  have ht : two (cd (rd_T62 l a) t) (cd (rd_T62 l b) u) = 0 := (two_iff _ _).2 ⟨ga.1, gb.1, by rw [ga.2, gb.2]⟩
  simp only [btw, if_true, ht, Option.bind_some, mo_ds0 _ _ (ga.2.trans gb.2.symm)]
  rfl
theorem way0 : m_way.f false = some 0 := rfl
theorem way1 : m_way.f true = some 1 := rfl
theorem i02 : (0 : Int) < 2 := by decide
theorem i12 : (1 : Int) < 2 := by decide
theorem i22 : ¬ (2 : Int) < 2 := by decide
theorem i10 : ¬ (1 : Int) = 0 := by decide
theorem w01 : wrap64 ((0 : Int) + 1) = 1 := by decide +kernel
theorem w11 : wrap64 ((1 : Int) + 1) = 2 := by decide +kernel
theorem a01 : (0 : Int) + 1 = 1 := rfl
theorem a11 : (1 : Int) + 1 = 2 := rfl
def sel (p : S51) (t : Bool) : Int := if t = true then p.f1 else p.f0
def upd (p : S51) (t : Bool) (m : Int) : S51 := if t = true then ⟨p.f0, m⟩ else ⟨m, p.f1⟩
theorem mn_min (a b : Int) : mn a b = min a b := by unfold mn; omega
theorem rd51_set {xs : List S51} {i j : Int} {v : S51} (h0 : 0 ≤ i) (h1 : i < xs.length) (hj0 : 0 ≤ j) : rd_T51 (xs.set i.toNat v) j = if j = i then v else rd_T51 xs j := by
  by_cases h : j = i
  · subst h
    have hl : j.toNat < xs.length := by omega
    simp [rd_T51, List.getD_eq_getElem?_getD, List.getElem?_set, hl]
  · have : ¬ i.toNat = j.toNat := by omega
    simp [rd_T51, List.getD_eq_getElem?_getD, List.getElem?_set, h, this]

def Lm (l : List S62) : Nat → Int → Bool → Int
  | 0, _, _ => 0
  | m + 1, i, t => min (J l i t (i + 1) false + Lm l m (i + 1) false) (J l i t (i + 1) true + Lm l m (i + 1) true)
theorem Lm_bd {l : List S62} (h : Ok l) : ∀ (m : Nat) (i : Int) (t : Bool), 0 ≤ i → i + m < l.length → 0 ≤ Lm l m i t ∧ Lm l m i t ≤ 64000 * m
  | 0, i, t, _, _ => by simp [Lm]
  | m + 1, i, t, h0, h1 => by
    have a := Lm_bd h m (i + 1) false (by omega) (by omega)
    have b := Lm_bd h m (i + 1) true (by omega) (by omega)
    have c := J_bd h h0 (by omega) (show 0 ≤ i + 1 by omega) (by omega) t false
    have d := J_bd h h0 (by omega) (show 0 ≤ i + 1 by omega) (by omega) t true
    simp only [Lm]
    omega

theorem least2 {l : List S62} (h : Ok l) (fr : Int) {out : List S51} (hn : out.length = l.length) {i : Int} (h0 : 0 ≤ i) (h1 : i + 1 < l.length) (t : Bool) (c : Int)
    (hb : ∀ u, 0 ≤ sel (rd_T51 out (i + 1)) u ∧ sel (rd_T51 out (i + 1)) u ≤ 6400000) {r : List S51}
    (hr : Ev (fun k => m_least.l1 k l fr (out.set i.toNat (upd (rd_T51 out i) t (min (J l i t (i + 1) false + sel (rd_T51 out (i + 1)) false) (J l i t (i + 1) true + sel (rd_T51 out (i + 1)) true)))) i (wrap64 (c + 1)) false true false true) r) :
    Ev (fun k => m_least.l2 k l fr out i t 9223372036854775807 c 0 false true false true false true) r := by
  have n2 := h.n2
  have w := wr (x := i + 1) (by omega)
  have j0 := J_bd h h0 (by omega) (show 0 ≤ i + 1 by omega) h1 t false
  have j1 := J_bd h h0 (by omega) (show 0 ≤ i + 1 by omega) h1 t true
  have b0 := hb false
  have b1 := hb true
  have g0 : 0 ≤ i + 1 := by omega
  have g1 : i + 1 < (out.length : Int) := by omega
  have g2 : i < (out.length : Int) := by omega
  refine Ev.step (f := fun k => (m_between.f k l i t (i + 1) false).bind fun a => m_least.l2 k l fr out i t (mn 9223372036854775807 (wrap64 (a + (rd_T51 out (i + 1)).f0))) c 1 false true false true false true) (fun k => by
    simp only [m_least.l2, w, way0, Option.bind_some, if_pos g0, if_pos g1, if_pos i02, if_true, a01]) ?_
  refine Ev.bind (f := fun k a => m_least.l2 k l fr out i t (mn 9223372036854775807 (wrap64 (a + (rd_T51 out (i + 1)).f0))) c 1 false true false true false true) (btw_ev h h0 (by omega) g0 h1 t false) ?_
  refine Ev.step (f := fun k => (m_between.f k l i t (i + 1) true).bind fun a => m_least.l2 k l fr out i t (mn (mn 9223372036854775807 (wrap64 (J l i t (i + 1) false + (rd_T51 out (i + 1)).f0))) (wrap64 (a + (rd_T51 out (i + 1)).f1))) c 2 false true false true false true) (fun k => by
    simp only [m_least.l2, w, way1, Option.bind_some, if_pos g0, if_pos g1, if_pos i12, if_neg i10, if_true, a11]) ?_
  refine Ev.bind (f := fun k a => m_least.l2 k l fr out i t (mn (mn 9223372036854775807 (wrap64 (J l i t (i + 1) false + (rd_T51 out (i + 1)).f0))) (wrap64 (a + (rd_T51 out (i + 1)).f1))) c 2 false true false true false true) (btw_ev h h0 (by omega) g0 h1 t true) ?_
  have e : mn (mn 9223372036854775807 (wrap64 (J l i t (i + 1) false + (rd_T51 out (i + 1)).f0))) (wrap64 (J l i t (i + 1) true + (rd_T51 out (i + 1)).f1)) = min (J l i t (i + 1) false + sel (rd_T51 out (i + 1)) false) (J l i t (i + 1) true + sel (rd_T51 out (i + 1)) true) := by
    simp only [sel] at b0 b1 ⊢
    rw [wr (by simp at b0; omega), wr (by simp at b1; omega), mn_min, mn_min]
    simp at b0 b1 ⊢
    omega
  rw [e]
  refine Ev.step (f := fun k => m_least.l1 k l fr (out.set i.toNat (upd (rd_T51 out i) t (min (J l i t (i + 1) false + sel (rd_T51 out (i + 1)) false) (J l i t (i + 1) true + sel (rd_T51 out (i + 1)) true)))) i (wrap64 (c + 1)) false true false true) (fun k => by
    simp only [m_least.l2, if_neg i22]
    cases t
    · simp only [way0, Option.bind_some, if_pos h0, if_pos g2, if_true, upd]; rfl
    · simp only [way1, Option.bind_some, if_pos h0, if_pos g2, if_true, if_neg i10, upd]) hr
def Tab (l : List S62) (e : Int) (out : List S51) (i : Int) : Prop := ∀ j : Int, i ≤ j → j < e → ∀ t, sel (rd_T51 out j) t = Lm l (e - 1 - j).toNat j t
theorem least0 {l : List S62} (h : Ok l) {fr e : Int} (hf : 0 ≤ fr) (he : e ≤ l.length) : ∀ (m : Nat) (i : Int) (out : List S51), i = fr + m - 1 → i + 2 ≤ e → out.length = l.length → Tab l e out (i + 1) →
    ∃ r, Ev (fun k => m_least.l0 k l fr out i false true) r ∧ r.length = l.length ∧ Tab l e r fr
  | 0, i, out, hi, h2, hn, ht => by
    refine ⟨out, Ev.const1 fun k => ?_, hn, ?_⟩
    · simp only [m_least.l0]
      rw [if_neg (by omega)]
    · rw [show fr = i + 1 by omega]; exact ht
  | m + 1, i, out, hi, h2, hn, ht => by
    have n2 := h.n2
    have hv : ∀ u, sel (rd_T51 out (i + 1)) u = Lm l (e - 1 - (i + 1)).toNat (i + 1) u := ht (i + 1) (by omega) (by omega)
    have hb : ∀ u, 0 ≤ sel (rd_T51 out (i + 1)) u ∧ sel (rd_T51 out (i + 1)) u ≤ 6400000 := fun u => by
      have := Lm_bd h (e - 1 - (i + 1)).toNat (i + 1) u (by omega) (by omega)
      rw [hv]; omega
    let v0 := min (J l i false (i + 1) false + sel (rd_T51 out (i + 1)) false) (J l i false (i + 1) true + sel (rd_T51 out (i + 1)) true)
    let v1 := min (J l i true (i + 1) false + sel (rd_T51 out (i + 1)) false) (J l i true (i + 1) true + sel (rd_T51 out (i + 1)) true)
    let o1 := out.set i.toNat (upd (rd_T51 out i) false v0)
    have ho1 : rd_T51 o1 (i + 1) = rd_T51 out (i + 1) := by
      show rd_T51 (out.set i.toNat _) (i + 1) = _
      rw [rd51_set (by omega) (by omega) (by omega), if_neg (by omega)]
    let o2 := o1.set i.toNat (upd (rd_T51 o1 i) true v1)
    have hn1 : o1.length = l.length := by simp [o1, hn]
    have hn2 : o2.length = l.length := by simp [o2, hn1]
    have ht2 : Tab l e o2 i := by
      intro j hj1 hj2 t
      by_cases hji : j = i
      · subst hji
        have e1 : rd_T51 o2 j = upd (upd (rd_T51 out j) false v0) true v1 := by
          show rd_T51 (o1.set j.toNat _) j = _
          rw [rd51_set (by omega) (by omega) (by omega), if_pos rfl]
          show upd (rd_T51 (out.set j.toNat _) j) true v1 = _
          rw [rd51_set (by omega) (by omega) (by omega), if_pos rfl]
        obtain ⟨q, hq⟩ : ∃ q, (e - 1 - j).toNat = q + 1 := ⟨(e - 1 - (j + 1)).toNat, by omega⟩
        have hq' : (e - 1 - (j + 1)).toNat = q := by omega
        rw [e1, hq]
        rw [hq'] at hv
        cases t
        · simp [sel, upd, Lm, v0, ← hv]
        · simp [sel, upd, Lm, v1, ← hv]
      · have e1 : rd_T51 o2 j = rd_T51 out j := by
          show rd_T51 (o1.set i.toNat _) j = _
          rw [rd51_set (by omega) (by omega) (by omega), if_neg hji]
          show rd_T51 (out.set i.toNat _) j = _
          rw [rd51_set (by omega) (by omega) (by omega), if_neg hji]
        rw [e1]
        exact ht j (by omega) hj2 t
    obtain ⟨r, hr, hrn, hrt⟩ := least0 h hf he m (i - 1) o2 (by omega) (by omega) hn2 (by rw [show i - 1 + 1 = i by omega]; exact ht2)
    refine ⟨r, ?_, hrn, hrt⟩
    refine Ev.step (f := fun k => m_least.l1 k l fr out i 0 false true false true) (fun k => by
      simp only [m_least.l0]
      rw [if_pos (by omega)]) ?_
    refine Ev.step (f := fun k => m_least.j2 k l fr out i false 0 false true false true) (fun k => by simp only [m_least.l1, if_pos i02, if_true]) ?_
    refine Ev.step (f := fun k => m_least.l2 k l fr out i false 9223372036854775807 0 0 false true false true false true) (fun k => rfl) ?_
    refine least2 h fr hn (by omega) (by omega) false 0 hb ?_
    rw [w01]
    refine Ev.step (f := fun k => m_least.j2 k l fr o1 i true 1 false true false true) (fun k => by simp only [m_least.l1, if_pos i12, if_neg i10, if_true]; rfl) ?_
    refine Ev.step (f := fun k => m_least.l2 k l fr o1 i true 9223372036854775807 1 0 false true false true false true) (fun k => rfl) ?_
    refine least2 h fr hn1 (by omega) (by omega) true 1 (by rw [ho1]; exact hb) ?_
    rw [w11, ho1]
    refine Ev.step (f := fun k => m_least.l0 k l fr o2 (i - 1) false true) (fun k => by simp only [m_least.l1, if_neg i22]; rw [wr (by omega)]) hr
theorem least_ev {l : List S62} (h : Ok l) {fr e : Int} (hf : 0 ≤ fr) (he : e ≤ l.length) (hfe : fr < e) : ∃ r, Ev (fun k => m_least.f k l fr e) r ∧ r.length = l.length ∧ Tab l e r fr := by
  have n2 := h.n2
  have hz : Tab l e (List.replicate l.length z51) (e - 1) := by
    intro j h1 h2 t
    have : j = e - 1 := by omega
    subst this
    have hl : (e - 1).toNat < l.length := by omega
    have hr : rd_T51 (List.replicate l.length z51) (e - 1) = z51 := by
      simp only [rd_T51, List.getD_eq_getElem?_getD, List.getElem?_replicate]
      split <;> rfl
    rw [hr, show (e - 1 - (e - 1)).toNat = 0 by omega]
    cases t <;> rfl
  obtain ⟨r, hr, h3, h4⟩ := least0 h hf he (e - 1 - fr).toNat (e - 2) (List.replicate l.length z51) (by omega) (by omega) (by simp) (by rw [show e - 2 + 1 = e - 1 by omega]; exact hz)
  refine ⟨r, ?_, h3, h4⟩
  unfold m_least.f
  simp only [if_pos (show (0 : Int) ≤ (l.length : Int) by omega), Int.toNat_natCast, if_pos (show l.length ≤ 17592186044416 by omega)]
  rw [wr (by omega)]
  exact hr

theorem r39_app (p s : List S39) (e : S39) : rd_T39 (p ++ e :: s) (p.length : Int) = e := by simp [rd_T39, List.getD_eq_getElem?_getD]
theorem r39_last (p : List S39) (e : S39) : rd_T39 (p ++ [e]) (wrap64 (((p ++ [e]).length : Int) - 1)) = e ∨ ¬ (p.length ≤ 1000) := by
  by_cases h : p.length ≤ 1000
  · left; rw [wr (by simp; omega), len_snoc, show (p.length : Int) + 1 - 1 = p.length by omega]; exact r39_app p [] e
  · right; exact h

def nextU (l : List S62) (m : Nat) (i : Int) (t : Bool) : Bool := decide (J l i t (i + 1) true + Lm l m (i + 1) true < J l i t (i + 1) false + Lm l m (i + 1) false)
def rowF (l : List S62) : Nat → Int → Bool → List S39
  | 0, _, _ => []
  | m + 1, i, t => ⟨i + 1, nextU l m i t⟩ :: rowF l m (i + 1) (nextU l m i t)
def topT (l : List S62) (m : Nat) (i : Int) : Bool := decide (Lm l m i true < Lm l m i false)
def firstR (l : List S62) (m : Nat) (i : Int) : List S39 := ⟨i, topT l m i⟩ :: rowF l m i (topT l m i)
def bestV (l : List S62) (m : Nat) (i : Int) : Int := min (Lm l m i false) (Lm l m i true)
theorem nextU_min (l : List S62) (m : Nat) (i : Int) (t : Bool) : J l i t (i + 1) (nextU l m i t) + Lm l m (i + 1) (nextU l m i t) = Lm l (m + 1) i t := by
  unfold nextU
  simp only [Lm]
  by_cases h : J l i t (i + 1) true + Lm l m (i + 1) true < J l i t (i + 1) false + Lm l m (i + 1) false
  · rw [decide_eq_true h]; omega
  · rw [decide_eq_false h]; omega
theorem first2 {l : List S62} (h : Ok l) {e : Int} (he : e ≤ l.length) {tab : List S51} (hn : tab.length = l.length) {i : Int} (h0 : 0 ≤ i) (h1 : i + 1 < e) (ht : Tab l e tab i) (B : Int) (row : List S39) (hrl : row.length ≤ 1000) (t u : Bool) (c : Int) {r : List S39 × Int}
    (hr : if J l i t (i + 1) u + Lm l (e - 1 - (i + 1)).toNat (i + 1) u = Lm l (e - 1 - i).toNat i t then Ev (fun k => m_first.l0 k l e tab B (row ++ [⟨i + 1, u⟩]) (i + 1) false true) r else Ev (fun k => m_first.l1 k l e tab B row i (wrap64 (c + 1)) false true false true i t) r) :
    Ev (fun k => m_first.j2 k l e tab B row i u c false true false true i t) r := by
  have n2 := h.n2
  have w := wr (x := i + 1) (by omega)
  have j0 := J_bd h h0 (by omega) (show 0 ≤ i + 1 by omega) (by omega) t u
  have b0 := Lm_bd h (e - 1 - (i + 1)).toNat (i + 1) u (by omega) (by omega)
  have g0 : 0 ≤ i + 1 := by omega
  have g1 : i + 1 < (tab.length : Int) := by omega
  have g2 : i < (tab.length : Int) := by omega
  have hl : row.length < 8796093022208 := by omega
  have s1 := ht (i + 1) (by omega) (by omega) u
  have s2 := ht i (by omega) (by omega) t
  have w2 := wr (x := J l i t (i + 1) u + sel (rd_T51 tab (i + 1)) u) (by rw [s1]; omega)
  rw [← s1, ← s2] at hr
  refine Ev.step (f := fun k => (m_between.f k l i t (i + 1) u).bind fun a => if wrap64 (a + sel (rd_T51 tab (i + 1)) u) = sel (rd_T51 tab i) t then m_first.l0 k l e tab B (row ++ [⟨i + 1, u⟩]) (i + 1) false true else m_first.l1 k l e tab B row i (wrap64 (c + 1)) false true false true i t) (fun k => by
    simp only [m_first.j2, w]
    cases u <;> cases t <;> simp [way0, way1, g0, g1, g2, h0, hl, sel]) ?_
  refine Ev.bind (f := fun k a => if wrap64 (a + sel (rd_T51 tab (i + 1)) u) = sel (rd_T51 tab i) t then m_first.l0 k l e tab B (row ++ [⟨i + 1, u⟩]) (i + 1) false true else m_first.l1 k l e tab B row i (wrap64 (c + 1)) false true false true i t) (btw_ev h h0 (by omega) g0 (by omega) t u) ?_
  rw [w2]
  by_cases q : J l i t (i + 1) u + sel (rd_T51 tab (i + 1)) u = sel (rd_T51 tab i) t
  · simp only [if_pos q] at hr ⊢; exact hr
  · simp only [if_neg q] at hr ⊢; exact hr
theorem first0 {l : List S62} (h : Ok l) {e : Int} (he : e ≤ l.length) {tab : List S51} (hn : tab.length = l.length) (B : Int) : ∀ (m : Nat) (i : Int) (t : Bool) (acc : List S39), i = e - 1 - m → 0 ≤ i → Tab l e tab i → acc.length ≤ i →
    Ev (fun k => m_first.l0 k l e tab B (acc ++ [⟨i, t⟩]) i false true) (acc ++ ⟨i, t⟩ :: rowF l m i t, B)
  | 0, i, t, acc, hi, h0, ht, ha => by
    have n2 := h.n2
    refine Ev.const1 fun k => ?_
    simp only [m_first.l0]
    rw [if_neg (by rw [wr (by omega)]; omega)]
    rfl
  | m + 1, i, t, acc, hi, h0, ht, ha => by
    have n2 := h.n2
    have hl : (acc ++ [(⟨i, t⟩ : S39)]).length = acc.length + 1 := by simp
    have hlast : rd_T39 (acc ++ [(⟨i, t⟩ : S39)]) (wrap64 (((acc ++ [(⟨i, t⟩ : S39)]).length : Int) - 1)) = ⟨i, t⟩ := (r39_last acc ⟨i, t⟩).resolve_right (by simp; omega)
    have wl := wr (x := ((acc ++ [(⟨i, t⟩ : S39)]).length : Int) - 1) (by rw [hl]; omega)
    have em : (e - 1 - (i + 1)).toNat = m := by omega
    have em' : (e - 1 - i).toNat = m + 1 := by omega
    have ih : ∀ u, u = nextU l m i t → Ev (fun k => m_first.l0 k l e tab B (acc ++ [⟨i, t⟩] ++ [⟨i + 1, u⟩]) (i + 1) false true) (acc ++ ⟨i, t⟩ :: rowF l (m + 1) i t, B) := fun u hu => by
      have := first0 h he hn B m (i + 1) u (acc ++ [⟨i, t⟩]) (by omega) (by omega) (fun j h1 h2 => ht j (by omega) h2) (by rw [hl]; omega)
      refine Ev.eq this ?_
      rw [← app_snoc]
      subst hu
      rfl
    refine Ev.step (f := fun k => m_first.l1 k l e tab B (acc ++ [⟨i, t⟩]) i 0 false true false true i t) (fun k => by
      simp only [m_first.l0]
      rw [if_pos (by rw [wr (by omega)]; omega), if_pos (by rw [wl, hl]; omega), if_pos (by rw [wl]; omega), hlast]) ?_
    refine Ev.step (f := fun k => m_first.j2 k l e tab B (acc ++ [⟨i, t⟩]) i false 0 false true false true i t) (fun k => by simp only [m_first.l1, if_pos i02, if_true]) ?_
    refine first2 h he hn h0 (by omega) ht B _ (by rw [hl]; omega) t false 0 ?_
    rw [em, em']
    by_cases q : J l i t (i + 1) false + Lm l m (i + 1) false = Lm l (m + 1) i t
    · rw [if_pos q]
      refine ih false ?_
      have := nextU_min l m i t
      unfold nextU
      symm
      refine decide_eq_false ?_
      simp only [Lm] at q
      omega
    · rw [if_neg q, w01]
      refine Ev.step (f := fun k => m_first.j2 k l e tab B (acc ++ [⟨i, t⟩]) i true 1 false true false true i t) (fun k => by simp only [m_first.l1, if_pos i12, if_neg i10, if_true]) ?_
      refine first2 h he hn h0 (by omega) ht B _ (by rw [hl]; omega) t true 1 ?_
      rw [em, em']
      have hq : J l i t (i + 1) true + Lm l m (i + 1) true = Lm l (m + 1) i t := by
        simp only [Lm] at q ⊢; omega
      rw [if_pos hq]
      refine ih true ?_
      unfold nextU
      symm
      refine decide_eq_true ?_
      simp only [Lm] at q hq
      omega
theorem first_ev {l : List S62} (h : Ok l) {fr e : Int} (hf : 0 ≤ fr) (he : e ≤ l.length) (hfe : fr < e) : Ev (fun k => m_first.f k l fr e) (firstR l (e - 1 - fr).toNat fr, bestV l (e - 1 - fr).toNat fr) := by
  obtain ⟨tab, h1, h2, h3⟩ := least_ev h hf he hfe
  unfold m_first.f
  refine Ev.bind (f := fun k t250 => (if 0 ≤ fr then (if fr < (t250.length : Int) then (m_first.l0 k l e t250 (mn ((rd_T51 t250 fr).f0) ((rd_T51 t250 fr).f1)) (([(⟨fr, (((rd_T51 t250 fr).f0) != (mn ((rd_T51 t250 fr).f0) ((rd_T51 t250 fr).f1)))⟩ : S39)] : List (S39))) fr false true) else (none)) else (none))) h1 ?_
  simp only [if_pos hf, if_pos (show fr < (tab.length : Int) by omega)]
  have s0 := h3 fr (by omega) hfe false
  have s1 := h3 fr (by omega) hfe true
  simp only [sel] at s0 s1
  have q0 : (rd_T51 tab fr).f0 = Lm l (e - 1 - fr).toNat fr false := s0
  have q1 : (rd_T51 tab fr).f1 = Lm l (e - 1 - fr).toNat fr true := s1
  rw [q0, q1, mn_min]
  have e1 : (Lm l (e - 1 - fr).toNat fr false != min (Lm l (e - 1 - fr).toNat fr false) (Lm l (e - 1 - fr).toNat fr true)) = topT l (e - 1 - fr).toNat fr := by
    unfold topT
    by_cases q : Lm l (e - 1 - fr).toNat fr true < Lm l (e - 1 - fr).toNat fr false
    · rw [decide_eq_true q]; simp; omega
    · rw [decide_eq_false q]; simp; omega
  rw [e1]
  exact first0 h he h2 _ (e - 1 - fr).toNat fr _ [] (by omega) hf h3 (by simp; omega)

def costR (l : List S62) : List S39 → Int
  | a :: b :: r => J l a.f0 a.f1 b.f0 b.f1 + costR l (b :: r)
  | _ => 0
def In (l : List S62) (row : List S39) : Prop := ∀ x ∈ row, 0 ≤ x.f0 ∧ x.f0 < l.length
theorem cost0 {l : List S62} (h : Ok l) (row : List S39) (hi : In l row) (hl : row.length ≤ 1000) : ∀ (s p : List S39) (a : S39) (acc : Int), row = p ++ a :: s → 0 ≤ acc → acc ≤ 64000 * p.length → Ev (fun k => m_cost.l0 k l row acc ((p.length : Int) + 1)) (acc + costR l (a :: s))
  | [], p, a, acc, hp, h0, h1 => Ev.const1 fun k => by
    simp only [m_cost.l0]
    rw [if_neg (by rw [hp]; simp)]; simp [costR]
  | b :: s, p, a, acc, hp, h0, h1 => by
    have hla : row.length = p.length + (s.length + 1) + 1 := by rw [hp]; simp; omega
    have ha := hi a (by rw [hp]; simp)
    have hb := hi b (by rw [hp]; simp)
    have hj := J_bd h ha.1 ha.2 hb.1 hb.2 a.f1 b.f1
    have ra : rd_T39 row (p.length : Int) = a := by rw [hp]; exact r39_app p (b :: s) a
    have rb : rd_T39 row ((p.length : Int) + 1) = b := by rw [hp, app_snoc, ← len_snoc p a]; exact r39_app (p ++ [a]) s b
    have ih := cost0 h row hi hl s (p ++ [a]) b (acc + J l a.f0 a.f1 b.f0 b.f1) (by rw [hp, app_snoc]) (by omega) (by rw [List.length_append]; simp; omega)
    refine Ev.step (f := fun k => (m_between.f k l a.f0 a.f1 b.f0 b.f1).bind fun t => m_cost.l0 k l row (wrap64 (acc + t)) ((p ++ [a]).length + 1)) (fun k => by
      simp only [m_cost.l0]
      rw [if_pos (by omega), wr (x := (p.length : Int) + 1 - 1) (by omega), show (p.length : Int) + 1 - 1 = p.length by omega, if_pos (by omega), if_pos (by omega), if_pos (by omega), ra, rb, wr (x := (p.length : Int) + 1 + 1) (by omega), len_snoc]) ?_
    refine Ev.bind (f := fun k t => m_cost.l0 k l row (wrap64 (acc + t)) ((p ++ [a]).length + 1)) (btw_ev h ha.1 ha.2 hb.1 hb.2 a.f1 b.f1) ?_
    rw [wr (x := acc + _) (by omega)]
    refine Ev.eq ih ?_
    simp only [costR]; omega
theorem cost_ev {l : List S62} (h : Ok l) (row : List S39) (hi : In l row) (hl : row.length ≤ 1000) : Ev (fun k => m_cost.f k l row) (costR l row) := by
  unfold m_cost.f
  cases row with
  | nil => exact Ev.const1 fun k => by simp only [m_cost.l0]; rw [if_neg (by simp)]; rfl
  | cons a s => exact Ev.eq (cost0 h _ hi hl s [] a 0 rfl (by omega) (by simp)) (by simp)
theorem cost_rowF (l : List S62) : ∀ (m : Nat) (i : Int) (t : Bool), costR l (⟨i, t⟩ :: rowF l m i t) = Lm l m i t
  | 0, i, t => rfl
  | m + 1, i, t => by
    simp only [rowF, costR]
    rw [cost_rowF l m (i + 1) (nextU l m i t)]
    exact nextU_min l m i t
theorem cost_first (l : List S62) (m : Nat) (i : Int) : costR l (firstR l m i) = bestV l m i := by
  unfold firstR bestV
  rw [cost_rowF]
  unfold topT
  by_cases h : Lm l m i true < Lm l m i false
  · rw [decide_eq_true h]; omega
  · rw [decide_eq_false h]; omega
theorem rowF_len (l : List S62) : ∀ (m : Nat) (i : Int) (t : Bool), (rowF l m i t).length = m
  | 0, _, _ => rfl
  | m + 1, i, t => by simp [rowF, rowF_len l m]
theorem firstR_len (l : List S62) (m : Nat) (i : Int) : (firstR l m i).length = m + 1 := by simp [firstR, rowF_len]

theorem seq_ev (l : List S62) : Ev (fun k => m_Sequence.f k l) (if ck l = 0 then (firstR l (l.length - 1) 0, bestV l (l.length - 1) 0, 0) else ([], 0, ck l)) := by
  unfold m_Sequence.f
  refine Ev.bind (f := fun k t281 => (if t281 = 0 then ((m_first.f k l 0 (l.length : Int)).bind fun bt282 => (some (bt282.1, bt282.2, 0))) else (some (([] : List (S39)), 0, t281)))) (ck_ev l) ?_
  by_cases h : ck l = 0
  · have hk := ok_of h
    have n1 := hk.n1
    simp only [if_pos h]
    refine Ev.bind (f := fun k bt282 => (some (bt282.1, bt282.2, (0 : Int)))) (first_ev hk (Int.le_refl 0) (Int.le_refl _) (by omega)) ?_
    rw [show ((l.length : Int) - 1 - 0).toNat = l.length - 1 by omega]
    exact Ev.const fun k => rfl
  · simp only [if_neg h]
    exact Ev.const fun k => rfl
def bkR : Nat → Int → List S39
  | 0, _ => []
  | m + 1, i => ⟨i, Int.tmod i 2 == 1⟩ :: bkR m (i + 1)
theorem bkR_len : ∀ (m : Nat) (i : Int), (bkR m i).length = m
  | 0, _ => rfl
  | m + 1, i => by simp [bkR, bkR_len m]
theorem bkR_in (l : List S62) : ∀ (m : Nat) (i : Int), 0 ≤ i → i + m ≤ l.length → In l (bkR m i)
  | 0, _, _, _ => by intro x hx; simp [bkR] at hx
  | m + 1, i, h0, h1 => by
    intro x hx
    simp only [bkR, List.mem_cons] at hx
    rcases hx with rfl | hx
    · exact ⟨h0, by show i < _; omega⟩
    · exact bkR_in l m (i + 1) (by omega) (by omega) x hx
theorem book0 {l : List S62} (h : Ok l) : ∀ (m : Nat) (acc : List S39) (i : Int), acc.length = i → i + m = l.length → acc ++ bkR m i = bkR l.length 0 →
    Ev (fun k => m_Book.l0 k l acc (l.length : Int) i) (bkR l.length 0, costR l (bkR l.length 0), 0)
  | 0, acc, i, ha, hi, hb => by
    have n2 := h.n2
    have hb' : acc = bkR l.length 0 := by simpa [bkR] using hb
    refine Ev.step (f := fun k => (m_cost.f k l (bkR l.length 0)).bind fun t293 => (some (bkR l.length 0, t293, (0 : Int)))) (fun k => by
      simp only [m_Book.l0]
      rw [if_neg (by omega), hb']) ?_
    exact Ev.bind (f := fun k t293 => (some (bkR l.length 0, t293, (0 : Int)))) (cost_ev h _ (bkR_in l _ 0 (Int.le_refl 0) (by omega)) (by rw [bkR_len]; omega)) (Ev.now _)
  | m + 1, acc, i, ha, hi, hb => by
    have n2 := h.n2
    refine Ev.step (f := fun k => m_Book.l0 k l (acc ++ [⟨i, Int.tmod i 2 == 1⟩]) (l.length : Int) (i + 1)) (fun k => by
      simp only [m_Book.l0]
      rw [if_pos (by omega), if_pos (by omega), wr (by omega)]) ?_
    exact book0 h m _ (i + 1) (by simp; omega) (by omega) (by rw [← hb]; simp [bkR])
theorem book_ev (l : List S62) : Ev (fun k => m_Book.f k l) (if ck l = 0 then (bkR l.length 0, costR l (bkR l.length 0), 0) else ([], 0, ck l)) := by
  unfold m_Book.f
  refine Ev.bind (f := fun k t289 => (if t289 = 0 then (m_Book.l0 k l ([] : List (S39)) (l.length : Int) 0) else (some (([] : List (S39)), 0, t289)))) (ck_ev l) ?_
  by_cases h : ck l = 0
  · simp only [if_pos h]
    exact book0 (ok_of h) l.length [] 0 rfl (by omega) rfl
  · simp only [if_neg h]
    exact Ev.const fun k => rfl

theorem few0 (l : List S62) (hl : l.length ≤ 70) : ∀ (m : Nat) (i : Int), 0 ≤ i → i + m = l.length → ∃ b, Ev (fun k => rf_Few.l0 k l i) b
  | 0, i, h0, h1 => ⟨true, Ev.const1 fun k => by
    simp only [rf_Few.l0]
    rw [if_neg (by omega)]⟩
  | m + 1, i, h0, h1 => by
    obtain ⟨b, ih⟩ := few0 l hl m (i + 1) (by omega) (by omega)
    have hs : ∀ k, rf_Few.l0 (k + 1) l i = if (((rd_T62 l i).f5).length : Int) > 70 then some false else if (((rd_T62 l i).f6).length : Int) > 70 then some false else rf_Few.l0 k l (i + 1) := fun k => by
      simp only [rf_Few.l0]
      rw [if_pos (by omega), if_pos h0, wr (by omega)]
    by_cases q1 : (((rd_T62 l i).f5).length : Int) > 70
    · exact ⟨false, Ev.const1 fun k => by rw [hs, if_pos q1]⟩
    · by_cases q2 : (((rd_T62 l i).f6).length : Int) > 70
      · exact ⟨false, Ev.const1 fun k => by rw [hs, if_neg q1, if_pos q2]⟩
      · exact ⟨b, Ev.step (fun k => by rw [hs, if_neg q1, if_neg q2]) ih⟩
theorem few_ev (l : List S62) (n : Int) (hn : n ≤ 70) : ∃ b, Ev (fun k => rf_Few.f k l n) b ∧ (b = true → (l.length : Int) ≤ n ∨ 64 < (l.length : Int)) ∧ (b = true → l.length ≤ 70) := by
  unfold rf_Few.f
  by_cases h1 : (l.length : Int) > n
  · by_cases h2 : (l.length : Int) ≤ 64
    · exact ⟨false, Ev.const1 fun k => by rw [if_pos h1, if_pos h2]; rfl, by simp, by simp⟩
    · by_cases h3 : (l.length : Int) > 70
      · exact ⟨false, Ev.const1 fun k => by rw [if_pos h1, if_neg h2, decide_eq_true h3]; rfl, by simp, by simp⟩
      · obtain ⟨b, hb⟩ := few0 l (by omega) l.length 0 (by omega) (by omega)
        exact ⟨b, Ev.step (fun k => by rw [if_pos h1, if_neg h2, decide_eq_false h3]; rfl) hb, fun _ => by omega, fun _ => by omega⟩
  · by_cases h3 : (l.length : Int) > 70
    · omega
    · obtain ⟨b, hb⟩ := few0 l (by omega) l.length 0 (by omega) (by omega)
      exact ⟨b, Ev.step (fun k => by rw [if_neg h1, decide_eq_false h3]; rfl) hb, fun _ => by omega, fun _ => by omega⟩

theorem awake300 : lw_awake.f 300 = some true := by decide +kernel
theorem awake_ev : Ev (fun k => lw_awake.f k) true := Ev.of (fun k => lw_awake.mono k) awake300
theorem awk {α : Type} {g : Nat → Bool → Option α} {r : α} (h : Ev (fun k => g k true) r) : Ev (fun k => (lw_awake.f k).bind fun t => g k t) r := Ev.bind (f := fun k t => g k t) awake_ev h
theorem awk1 : Ev (fun k => (lw_awake.f k).bind fun t => (some t : Option Bool)) true := awk (g := fun k t => some t) (Ev.now true)
def costT (l : List S62) : Int → List Bool → Int
  | i, t :: u :: r => J l i t (i + 1) u + costT l (i + 1) (u :: r)
  | _, _ => 0
theorem Lm_le (l : List S62) : ∀ (ts : List Bool) (i : Int) (t : Bool), Lm l ts.length i t ≤ costT l i (t :: ts)
  | [], _, _ => by simp [Lm, costT]
  | u :: r, i, t => by
    have := Lm_le l r (i + 1) u
    simp only [List.length_cons, Lm, costT]
    cases u <;> omega
theorem best_le (l : List S62) (m : Nat) (i : Int) (ts : List Bool) (h : ts.length = m + 1) : bestV l m i ≤ costT l i ts := by
  match ts, h with
  | t :: r, h =>
    have hr : r.length = m := by simpa using h
    have := Lm_le l r i t
    rw [hr] at this
    unfold bestV
    cases t <;> omega
theorem okRow_in (n : Int) : ∀ (r : List S39) (s : List Int), okRow n r s = true → ∀ x ∈ r, 0 ≤ x.f0 ∧ x.f0 < n
  | [], _, _, x, hx => by simp at hx
  | y :: r, s, h, x, hx => by
    simp only [okRow] at h
    by_cases q1 : y.f0 < 0
    · rw [if_pos q1] at h; simp at h
    · rw [if_neg q1] at h
      by_cases q2 : y.f0 ≥ n
      · rw [if_pos q2] at h; simp at h
      · rw [if_neg q2] at h
        by_cases q3 : y.f0 ∈ s
        · rw [if_pos q3] at h; simp at h
        · rw [if_neg q3] at h
          rcases List.mem_cons.1 hx with rfl | hx
          · omega
          · exact okRow_in n r _ h x hx
theorem Cost_ev (l : List S62) (row : List S39) (hl : row.length ≤ 1000) : Ev (fun k => m_Cost.f k l row) (if ck l = 0 then (if okRow l.length row [] = true then (costR l row, 0) else (0, 1)) else (0, ck l)) := by
  unfold m_Cost.f
  refine Ev.bind (f := fun k t => (if t = 0 then (if okRow (l.length : Int) row [] = true then ((m_cost.f k l row).bind fun c => (some (c, 0))) else (some (0, 1))) else (some (0, t)))) (ck_ev l) ?_
  by_cases h : ck l = 0
  · simp only [if_pos h]
    by_cases q : okRow (l.length : Int) row [] = true
    · simp only [if_pos q]
      exact Ev.bind (f := fun k c => (some (c, (0 : Int)))) (cost_ev (ok_of h) row (okRow_in _ _ _ q) hl) (Ev.now _)
    · simp only [if_neg q]; exact Ev.now _
  · simp only [if_neg h]; exact Ev.now _
def okJ (l : List S62) (p : List S51) (i : Int) (t u : Bool) : Bool := !(decide (sel (rd_T51 p i) t ≥ -9223372036854775808 + J l i t (i + 1) u) && decide (sel (rd_T51 p i) t - J l i t (i + 1) u > sel (rd_T51 p (i + 1)) u))
def ok4 (l : List S62) (p : List S51) (i : Int) : Bool := okJ l p i false false && (okJ l p i false true && (okJ l p i true false && okJ l p i true true))
def loopB (l : List S62) (p : List S51) : Nat → Int → Bool
  | 0, _ => true
  | m + 1, i => ok4 l p i && loopB l p m (i + 1)
def pv0 (c : Int) (p : List S51) : Bool := !(decide ((rd_T51 p (p.length - 1)).f0 > 0) || (decide ((rd_T51 p (p.length - 1)).f1 > 0) || (decide (c > (rd_T51 p 0).f0) || decide (c > (rd_T51 p 0).f1))))
def pvs (l : List S62) (c : Int) (p : List S51) : Bool := decide (ck l = 0) && (decide ((p.length : Int) = l.length) && (pv0 c p && loopB l p (l.length - 1) 0))
def rng (p : List S51) : Prop := ∀ x ∈ p, (-9223372036854775808 ≤ x.f0 ∧ x.f0 ≤ 9223372036854775807) ∧ (-9223372036854775808 ≤ x.f1 ∧ x.f1 ≤ 9223372036854775807)
theorem rdm51 {l : List S51} {i : Int} (h0 : 0 ≤ i) (h1 : i < l.length) : rd_T51 l i ∈ l := by
  have h : i.toNat < l.length := by omega
  simp [rd_T51, List.getD_eq_getElem?_getD, List.getElem?_eq_getElem h]
theorem rng_sel {p : List S51} (h : rng p) {i : Int} (h0 : 0 ≤ i) (h1 : i < p.length) (t : Bool) : -9223372036854775808 ≤ sel (rd_T51 p i) t ∧ sel (rd_T51 p i) t ≤ 9223372036854775807 := by
  have := h _ (rdm51 h0 h1)
  cases t
  · exact this.1
  · exact this.2
theorem proves6 {l : List S62} (h : Ok l) {p : List S51} (hg : rng p) (hp : p.length = l.length) (N : Int) {i : Int} (h0 : 0 ≤ i) (h1 : i + 1 < l.length) (t u : Bool) (c d : Int) {r : Bool} (hf : okJ l p i t u = false → r = false)
    (hr : okJ l p i t u = true → Ev (fun k => m_Proves.l2 k l p i t N i c (wrap64 (d + 1)) false true false true false true) r) :
    Ev (fun k => m_Proves.j6 k l p i t u N i c d false true false true false true) r := by
  have n2 := h.n2
  have w := wr (x := i + 1) (by omega)
  have jb := J_bd h h0 (by omega) (show 0 ≤ i + 1 by omega) h1 t u
  have r1 := rng_sel hg h0 (by omega) t
  have r2 := rng_sel hg (i := i + 1) (by omega) (by omega) u
  have g0 : 0 ≤ i + 1 := by omega
  have g1 : i < (p.length : Int) := by omega
  have g2 : i + 1 < (p.length : Int) := by omega
  have w1 : wrap64 (-9223372036854775808 + J l i t (i + 1) u) = -9223372036854775808 + J l i t (i + 1) u := wr ⟨by omega, by omega⟩
  have fin : ∀ z : Bool, z = !(okJ l p i t u) → Ev (fun k => m_Proves.j8 k l p i t N i c d z false true false true false true) r := fun z hz => by
    cases z
    · refine Ev.step (fun k => ?_) (hr (by simpa using hz.symm))
      simp only [m_Proves.j8, Bool.false_eq_true, if_false]
    · rw [hf (by simpa using hz.symm)]
      exact Ev.const1 fun k => by simp only [m_Proves.j8, if_true]
  refine Ev.step (f := fun k => (m_between.f k l i t (i + 1) u).bind fun a => m_Proves.j7 k l p i t u (sel (rd_T51 p i) t) a N i c d false true false true false true) (fun k => by
    simp only [m_Proves.j6, w]
    cases t <;> simp only [way0, way1, Option.bind_some, if_pos h0, if_pos g1, if_neg i10, if_true, sel, Bool.false_eq_true, if_false]) ?_
  refine Ev.bind (f := fun k a => m_Proves.j7 k l p i t u (sel (rd_T51 p i) t) a N i c d false true false true false true) (btw_ev (a := i) (b := i + 1) h h0 (by omega) g0 h1 t u) ?_
  by_cases q1 : sel (rd_T51 p i) t ≥ -9223372036854775808 + J l i t (i + 1) u
  · have w4 := wr (x := sel (rd_T51 p i) t - J l i t (i + 1) u) ⟨by omega, by omega⟩
    refine Ev.step (fun k => ?_) (fin (decide (sel (rd_T51 p i) t - J l i t (i + 1) u > sel (rd_T51 p (i + 1)) u)) (by unfold okJ; rw [decide_eq_true q1, Bool.true_and, Bool.not_not]))
    simp only [m_Proves.j7, w, w1, w4, if_pos q1]
    cases u <;> simp only [way0, way1, Option.bind_some, if_pos g0, if_pos g2, if_neg i10, if_true, sel, Bool.false_eq_true, if_false] <;> rfl
  · refine Ev.step (fun k => ?_) (fin false (by unfold okJ; rw [decide_eq_false q1, Bool.false_and]; rfl))
    simp only [m_Proves.j7, w1, if_neg q1]
theorem proves4 {l : List S62} (h : Ok l) {p : List S51} (hg : rng p) (hp : p.length = l.length) (N : Int) {i : Int} (h0 : 0 ≤ i) (h1 : i + 1 < l.length) (t : Bool) (c : Int) {r : Bool} (hf : (okJ l p i t false && okJ l p i t true) = false → r = false)
    (hr : (okJ l p i t false && okJ l p i t true) = true → Ev (fun k => m_Proves.l1 k l p i N i (wrap64 (c + 1)) false true false true) r) :
    Ev (fun k => m_Proves.j4 k l p i t N i c false true false true) r := by
  refine Ev.step (f := fun k => m_Proves.l2 k l p i t N i c 0 false true false true false true) (fun k => rfl) ?_
  refine Ev.step (f := fun k => m_Proves.j6 k l p i t false N i c 0 false true false true false true) (fun k => by simp only [m_Proves.l2, if_pos i02, if_true]) ?_
  refine proves6 h hg hp N h0 h1 t false c 0 (fun z => hf (by rw [z]; rfl)) (fun z => ?_)
  rw [w01]
  refine Ev.step (f := fun k => m_Proves.j6 k l p i t true N i c 1 false true false true false true) (fun k => by simp only [m_Proves.l2, if_pos i12, if_neg i10, if_true]) ?_
  refine proves6 h hg hp N h0 h1 t true c 1 (fun z' => hf (by rw [z, z']; rfl)) (fun z' => ?_)
  rw [w11]
  refine Ev.step (fun k => ?_) (hr (by rw [z, z']; rfl))
  simp only [m_Proves.l2, if_neg i22]
theorem proves0 {l : List S62} (h : Ok l) {p : List S51} (hg : rng p) (hp : p.length = l.length) : ∀ (m : Nat) (i : Int), 0 ≤ i → i + m = l.length - 1 → Ev (fun k => m_Proves.l0 k l p (l.length - 1) i false true) (loopB l p m i)
  | 0, i, h0, h1 => Ev.const1 fun k => by
    simp only [m_Proves.l0]
    rw [if_neg (by omega)]; rfl
  | m + 1, i, h0, h1 => by
    have n2 := h.n2
    have ih := proves0 h hg hp m (i + 1) (by omega) (by omega)
    refine Ev.step (f := fun k => m_Proves.l1 k l p i (l.length - 1) i 0 false true false true) (fun k => by
      simp only [m_Proves.l0]
      rw [if_pos (by omega)]) ?_
    refine Ev.step (f := fun k => m_Proves.j4 k l p i false (l.length - 1) i 0 false true false true) (fun k => by simp only [m_Proves.l1, if_pos i02, if_true]) ?_
    have e : loopB l p (m + 1) i = ((okJ l p i false false && okJ l p i false true) && ((okJ l p i true false && okJ l p i true true) && loopB l p m (i + 1))) := by
      simp only [loopB, ok4, Bool.and_assoc]
    rw [e]
    refine proves4 h hg hp _ h0 (by omega) false 0 (fun z => by rw [z]; rfl) (fun z => ?_)
    rw [z, w01, Bool.true_and]
    refine Ev.step (f := fun k => m_Proves.j4 k l p i true (l.length - 1) i 1 false true false true) (fun k => by simp only [m_Proves.l1, if_pos i12, if_neg i10, if_true]) ?_
    refine proves4 h hg hp _ h0 (by omega) true 1 (fun z => by rw [z]; rfl) (fun z => ?_)
    rw [z, w11, Bool.true_and]
    refine Ev.step (fun k => ?_) ih
    simp only [m_Proves.l1, if_neg i22]
    rw [wr (by omega)]
theorem Proves_ev (l : List S62) (c : Int) (p : List S51) (hg : rng p) : Ev (fun k => m_Proves.f k l c p) (pvs l c p) := by
  have no : ∀ b, Ev (fun k => m_Proves.j0 k l c p true b true) false := fun b => Ev.const1 fun k => by simp [m_Proves.j0]
  unfold m_Proves.f
  refine Ev.bind (ck_ev l) ?_
  by_cases h : ck l = 0
  · have hk := ok_of h
    have n1 := hk.n1
    have n2 := hk.n2
    simp only [if_pos h]
    unfold pvs
    rw [decide_eq_true h, Bool.true_and]
    by_cases q : (p.length : Int) = l.length
    · have wl := wr (x := (p.length : Int) - 1) (by omega)
      have wn := wr (x := (l.length : Int) - 1) (by omega)
      have loop := proves0 hk hg (by omega) (l.length - 1) 0 (Int.le_refl 0) (by omega)
      rw [decide_eq_true q, Bool.true_and, show ((p.length : Int) != (l.length : Int)) = false by simp [q]]
      refine Ev.step (f := fun k => m_Proves.j1 k l p (!(pv0 c p)) false true) (fun k => by
        simp only [m_Proves.j0, Bool.false_eq_true, if_false, wl]
        rw [if_pos (by omega), if_pos (by omega)]
        unfold pv0
        by_cases q1 : (rd_T51 p (p.length - 1)).f0 > 0
        · rw [if_pos q1, decide_eq_true q1]; rfl
        · rw [if_neg q1, decide_eq_false q1]
          by_cases q2 : (rd_T51 p (p.length - 1)).f1 > 0
          · rw [if_pos q2, decide_eq_true q2]; rfl
          · rw [if_neg q2, decide_eq_false q2, if_pos (by omega)]
            by_cases q3 : c > (rd_T51 p 0).f0
            · rw [if_pos q3, decide_eq_true q3]; rfl
            · rw [if_neg q3, decide_eq_false q3]; simp) ?_
      cases pv0 c p
      · exact Ev.const1 fun k => by simp [m_Proves.j1]
      · refine Ev.step (fun k => ?_) loop
        simp only [m_Proves.j1, Bool.not_true, Bool.false_eq_true, if_false, wn]
    · rw [decide_eq_false q, show ((p.length : Int) != (l.length : Int)) = true by simp [q]]
      exact no false
  · simp only [if_neg h]
    unfold pvs
    rw [decide_eq_false h]
    exact no false
theorem Proof_ev (l : List S62) : ∃ tab, Ev (fun k => m_Proof.f k l) (if ck l = 0 then (tab, 0) else ([], ck l)) ∧ (ck l = 0 → tab.length = l.length ∧ Tab l l.length tab 0) := by
  by_cases h : ck l = 0
  · have hk := ok_of h
    have n1 := hk.n1
    obtain ⟨tab, h1, h2, h3⟩ := least_ev hk (fr := 0) (e := l.length) (Int.le_refl 0) (Int.le_refl _) (by omega)
    refine ⟨tab, ?_, fun _ => ⟨h2, h3⟩⟩
    unfold m_Proof.f
    have hc := ck_ev l
    rw [h] at hc ⊢
    refine Ev.bind hc ?_
    simp only [if_true]
    exact Ev.bind (f := fun k t295 => (some (t295, (0 : Int)))) h1 (Ev.now _)
  · refine ⟨[], ?_, fun z => absurd z h⟩
    unfold m_Proof.f
    refine Ev.bind (ck_ev l) ?_
    simp only [if_neg h]
    exact Ev.now _
theorem tab_rng {l : List S62} (h : Ok l) {tab : List S51} (h2 : tab.length = l.length) (h3 : Tab l l.length tab 0) : rng tab := fun x hx => by
  have n2 := h.n2
  obtain ⟨j, hj, rfl⟩ := List.mem_iff_getElem.1 hx
  have e : rd_T51 tab (j : Int) = tab[j] := by simp [rd_T51, List.getD_eq_getElem?_getD, List.getElem?_eq_getElem hj]
  have b0 := Lm_bd h (l.length - 1 - (j : Int)).toNat j false (by omega) (by omega)
  have b1 := Lm_bd h (l.length - 1 - (j : Int)).toNat j true (by omega) (by omega)
  have s0 := h3 j (by omega) (by omega) false
  have s1 := h3 j (by omega) (by omega) true
  rw [e] at s0 s1
  have s0' : tab[j].f0 = _ := s0
  have s1' : tab[j].f1 = _ := s1
  omega
theorem loop_tab {l : List S62} (h : Ok l) {tab : List S51} (h3 : Tab l l.length tab 0) : ∀ (m : Nat) (i : Int), 0 ≤ i → i + m = l.length - 1 → loopB l tab m i = true
  | 0, _, _, _ => rfl
  | m + 1, i, h0, h1 => by
    have key : ∀ t u, okJ l tab i t u = true := fun t u => by
      have s0 := h3 i h0 (by omega) t
      have s1 := h3 (i + 1) (by omega) (by omega) u
      rw [show ((l.length : Int) - 1 - i).toNat = m + 1 by omega] at s0
      rw [show ((l.length : Int) - 1 - (i + 1)).toNat = m by omega] at s1
      have hle : Lm l (m + 1) i t ≤ J l i t (i + 1) u + Lm l m (i + 1) u := by
        simp only [Lm]
        cases u <;> omega
      unfold okJ
      rw [s0, s1, decide_eq_false (show ¬ (Lm l (m + 1) i t - J l i t (i + 1) u > Lm l m (i + 1) u) by omega), Bool.and_false]
      rfl
    simp only [loopB, ok4, key, Bool.true_and]
    exact loop_tab h h3 m (i + 1) (by omega) (by omega)
theorem loop_le {l : List S62} {p : List S51} (hg : rng p) (hp : p.length = l.length) (hz : ∀ t, sel (rd_T51 p (l.length - 1)) t ≤ 0) : ∀ (m : Nat) (i : Int), 0 ≤ i → i + m = l.length - 1 → loopB l p m i = true → ∀ t, sel (rd_T51 p i) t ≤ Lm l m i t
  | 0, i, h0, h1, _, t => by
    have := hz t
    rw [show (l.length : Int) - 1 = i by omega] at this
    simpa [Lm] using this
  | m + 1, i, h0, h1, hl, t => by
    simp only [loopB, Bool.and_eq_true] at hl
    have ih := loop_le hg hp hz m (i + 1) (by omega) (by omega) hl.2
    have key : ∀ u, okJ l p i t u = true := fun u => by
      have := hl.1
      simp only [ok4, Bool.and_eq_true] at this
      cases t <;> cases u
      · exact this.1
      · exact this.2.1
      · exact this.2.2.1
      · exact this.2.2.2
    have le : ∀ u, sel (rd_T51 p i) t ≤ J l i t (i + 1) u + Lm l m (i + 1) u := fun u => by
      have k := key u
      have r2 := rng_sel hg (i := i + 1) (by omega) (by omega) u
      have := ih u
      unfold okJ at k
      rw [Bool.not_eq_true', Bool.and_eq_false_iff, decide_eq_false_iff_not, decide_eq_false_iff_not] at k
      omega
    have a := le false
    have b := le true
    simp only [Lm]
    omega
theorem pvs_le {l : List S62} {c : Int} {p : List S51} (hg : rng p) (h : pvs l c p = true) : c ≤ bestV l (l.length - 1) 0 := by
  unfold pvs at h
  simp only [Bool.and_eq_true, decide_eq_true_eq] at h
  obtain ⟨h1, h2, h3, h4⟩ := h
  have hk := ok_of h1
  have n1 := hk.n1
  unfold pv0 at h3
  simp only [Bool.not_eq_true', Bool.or_eq_false_iff, decide_eq_false_iff_not] at h3
  obtain ⟨a1, a2, a3, a4⟩ := h3
  rw [h2] at a1 a2
  have hz : ∀ t, sel (rd_T51 p (l.length - 1)) t ≤ 0 := fun t => by
    cases t
    · show (rd_T51 p (l.length - 1)).f0 ≤ 0; omega
    · show (rd_T51 p (l.length - 1)).f1 ≤ 0; omega
  have le := loop_le hg (by omega) hz (l.length - 1) 0 (Int.le_refl 0) (by omega) h4
  have l0 : (rd_T51 p 0).f0 ≤ _ := le false
  have l1 : (rd_T51 p 0).f1 ≤ _ := le true
  unfold bestV
  omega
theorem tab_pvs {l : List S62} (h : ck l = 0) {tab : List S51} (h2 : tab.length = l.length) (h3 : Tab l l.length tab 0) (c : Int) : pvs l c tab = decide (c ≤ bestV l (l.length - 1) 0) := by
  have hk := ok_of h
  have n1 := hk.n1
  have s0 := h3 (l.length - 1) (by omega) (by omega) false
  have s1 := h3 (l.length - 1) (by omega) (by omega) true
  rw [show ((l.length : Int) - 1 - (l.length - 1)).toNat = 0 by omega] at s0 s1
  have s0' : (rd_T51 tab (l.length - 1)).f0 = 0 := s0
  have s1' : (rd_T51 tab (l.length - 1)).f1 = 0 := s1
  have t0 := h3 0 (by omega) (by omega) false
  have t1 := h3 0 (by omega) (by omega) true
  rw [show ((l.length : Int) - 1 - 0).toNat = l.length - 1 by omega] at t0 t1
  have t0' : (rd_T51 tab 0).f0 = Lm l (l.length - 1) 0 false := t0
  have t1' : (rd_T51 tab 0).f1 = Lm l (l.length - 1) 0 true := t1
  unfold pvs pv0
  rw [decide_eq_true h, decide_eq_true (show (tab.length : Int) = l.length by omega), show (tab.length : Int) = l.length by omega, loop_tab hk h3 (l.length - 1) 0 (Int.le_refl 0) (by omega), s0', s1', t0', t1']
  unfold bestV
  by_cases q : c ≤ min (Lm l (l.length - 1) 0 false) (Lm l (l.length - 1) 0 true)
  · rw [decide_eq_true q, decide_eq_false (show ¬ c > Lm l (l.length - 1) 0 false by omega), decide_eq_false (show ¬ c > Lm l (l.length - 1) 0 true by omega)]; rfl
  · rw [decide_eq_false q]
    by_cases q2 : c > Lm l (l.length - 1) 0 false
    · rw [decide_eq_true q2]; simp
    · rw [decide_eq_true (show c > Lm l (l.length - 1) 0 true by omega)]; simp

end Go.Proofs.YtglkcinmohjblaaDoor.XA
namespace Go.Proofs.YtglkcinmohjblaaDoor.Pure
set_option linter.unusedVariables false
set_option linter.unusedSimpArgs false
open Go.RowKit Go.Proofs.YtglkcinmohjblaaDoor.Opens Go.Proofs.YtglkcinmohjblaaDoor.XA Go.Proofs.YtglkcinmohjblaaDoorW.PrintWords Go.Proofs.YtglkcinmohjblaaDoorW.PrintLast Go.Proofs.YtglkcinmohjblaaDoorW.PrintMore
def SeqR : Int → List S39 → Prop
  | _, [] => True
  | b, x :: r => x.f0 = b ∧ SeqR (b + 1) r
theorem seq_ok (n : Int) : ∀ (r : List S39) (b : Int) (S : List Int), 0 ≤ b → b + r.length ≤ n → SeqR b r → (∀ y ∈ S, y < b) → okRow n r S = true
  | [], _, _, _, _, _, _ => rfl
  | x :: r, b, S, h0, h1, h2, h3 => by
    simp only [List.length_cons] at h1
    have e := h2.1
    simp only [okRow]
    rw [if_neg (by omega), if_neg (by omega), if_neg (fun z => by have := h3 _ z; omega)]
    refine seq_ok n r (b + 1) _ (by omega) (by omega) h2.2 (fun y hy => ?_)
    rcases List.mem_cons.1 hy with rfl | hy
    · omega
    · have := h3 y hy; omega
theorem rowF_seq (l : List S62) : ∀ (m : Nat) (i : Int) (t : Bool), SeqR (i + 1) (rowF l m i t)
  | 0, _, _ => trivial
  | m + 1, i, t => ⟨rfl, rowF_seq l m (i + 1) _⟩
theorem firstR_seq (l : List S62) (m : Nat) (i : Int) : SeqR i (firstR l m i) := ⟨rfl, rowF_seq l m i _⟩
def trR : Int → List Bool → List S39
  | _, [] => []
  | i, t :: r => ⟨i, t⟩ :: trR (i + 1) r
theorem trR_len : ∀ (ts : List Bool) (i : Int), (trR i ts).length = ts.length
  | [], _ => rfl
  | _ :: r, i => by simp [trR, trR_len r]
theorem trR_seq : ∀ (ts : List Bool) (i : Int), SeqR i (trR i ts)
  | [], _ => trivial
  | _ :: r, i => ⟨rfl, trR_seq r (i + 1)⟩
theorem trR_cost (l : List S62) : ∀ (ts : List Bool) (i : Int), costR l (trR i ts) = costT l i ts
  | [], _ => rfl
  | [_], _ => rfl
  | t :: u :: r, i => by
    have := trR_cost l (u :: r) (i + 1)
    simp only [trR, costR, costT] at this ⊢
    rw [this]
theorem bkR_tr : ∀ (m : Nat) (i : Int), ∃ ts : List Bool, ts.length = m ∧ bkR m i = trR i ts
  | 0, _ => ⟨[], rfl, rfl⟩
  | m + 1, i => by
    obtain ⟨ts, h1, h2⟩ := bkR_tr m (i + 1)
    exact ⟨(Int.tmod i 2 == 1) :: ts, by simp [h1], by simp only [bkR, trR, h2]⟩
theorem rdb_app (p s : List Bool) (e : Bool) : rdOf false (p ++ e :: s) (p.length : Int) = e := by simp [rdOf, List.getD_eq_getElem?_getD]
theorem trR_snoc : ∀ (p : List Bool) (i : Int) (t : Bool), trR i p ++ [⟨i + p.length, t⟩] = trR i (p ++ [t])
  | [], i, t => by simp [trR]
  | x :: p, i, t => by
    have := trR_snoc p (i + 1) t
    simp only [List.cons_append, trR, List.length_cons]
    rw [← this, show i + ((p.length + 1 : Nat) : Int) = i + 1 + (p.length : Int) by omega]
theorem least_row (l : List S62) (ts : List Bool) (hl : ts.length ≤ 1000) (p : List S51) (c a : Int) (s : List S39) {r : Bool} (hr : Ev (fun k => (m_Cost.f k l (trR 0 ts)).bind fun bt668 => (lw_BookmatchLeast.j6 k l p c s a bt668.1 bt668.2)) r) : ∀ (q b : List Bool), ts = b ++ q →
    Ev (fun k => lw_BookmatchLeast.l0 k l ts p c s a (trR 0 b) (b.length : Int)) r
  | [], b, hb => by
    refine Ev.step (fun k => ?_) hr
    simp only [lw_BookmatchLeast.l0]
    rw [if_neg (by rw [hb]; simp), show b = ts by rw [hb]; simp]
  | x :: q, b, hb => by
    have hla : ts.length = b.length + q.length + 1 := by rw [hb]; simp; omega
    have rx : rdOf false ts (b.length : Int) = x := by rw [hb]; exact rdb_app b q x
    have ih := least_row l ts hl p c a s hr q (b ++ [x]) (by rw [hb, app_snoc])
    have hbl := trR_len b 0
    refine Ev.step (f := fun k => lw_BookmatchLeast.j5 k l ts p c s a (trR 0 b) (b.length : Int)) (fun k => by
      simp only [lw_BookmatchLeast.l0]
      rw [if_pos (by omega)]) ?_
    refine Ev.step (fun k => ?_) ih
    simp only [lw_BookmatchLeast.j5]
    have e1 := trR_snoc b 0 x
    rw [Int.zero_add] at e1
    rw [if_pos (by omega), if_pos (by omega), if_pos (by omega), rx, wr (by omega), len_snoc, e1]
theorem Least_ev (l : List S62) (ts : List Bool) (p : List S51) (c : Int) (hg : rng p) : Ev (fun k => lw_BookmatchLeast.f k l ts p c) true := by
  obtain ⟨b, hb, _, hb2⟩ := few_ev l 20 (by omega)
  have out : Ev (fun k => lw_BookmatchLeast.j0 k l ts p c true) true := Ev.step (fun k => by simp only [lw_BookmatchLeast.j0, if_true]) awk1
  unfold lw_BookmatchLeast.f
  refine Ev.bind hb ?_
  cases b with
  | false => simp only [Bool.false_eq_true, if_false]; exact out
  | true =>
    have hn := hb2 rfl
    simp only [if_true]
    by_cases qt : (ts.length : Int) = l.length
    · simp only [if_pos qt]
      by_cases q0 : (p.length : Int) > 70
      · rw [decide_eq_true q0]; exact out
      · rw [decide_eq_false q0]
        apply Ev.step
        focus (intro k; simp only [lw_BookmatchLeast.j0, Bool.false_eq_true, if_false]; rfl)
        apply Ev.step
        focus (intro k; simp only [lw_BookmatchLeast.j1]; rfl)
        refine Ev.bind (seq_ev l) ?_
        by_cases h : ck l = 0
        · have hk := ok_of h
          have n1 := hk.n1
          have n2 := hk.n2
          simp only [if_pos h]
          apply Ev.step
          focus (intro k; simp only [lw_BookmatchLeast.j2, if_true]; rfl)
          apply Ev.step
          focus (intro k; simp only [lw_BookmatchLeast.j3]; rfl)
          have htl := trR_len ts 0
          have hfl := firstR_len l (l.length - 1) 0
          refine least_row l ts (by omega) p c _ _ ?_ ts [] rfl
          refine Ev.bind (Cost_ev l (trR 0 ts) (by omega)) ?_
          have k1 : okRow (l.length : Int) (trR 0 ts) [] = true := seq_ok _ _ 0 [] (Int.le_refl 0) (by omega) (trR_seq ts 0) (by simp)
          have k2 : okRow (l.length : Int) (firstR l (l.length - 1) 0) [] = true := seq_ok _ _ 0 [] (Int.le_refl 0) (by omega) (firstR_seq l _ 0) (by simp)
          simp only [if_pos h, if_pos k1, trR_cost]
          apply Ev.step
          focus (intro k; simp only [lw_BookmatchLeast.j6]; rfl)
          refine Ev.bind (Cost_ev l (firstR l (l.length - 1) 0) (by omega)) ?_
          simp only [if_pos h, if_pos k2, cost_first]
          apply Ev.step
          focus (intro k; simp only [lw_BookmatchLeast.j7]; rfl)
          refine Ev.bind (book_ev l) ?_
          simp only [if_pos h]
          apply Ev.step
          focus (intro k; simp only [lw_BookmatchLeast.j8]; rfl)
          obtain ⟨tab, hp1, hp2⟩ := Proof_ev l
          obtain ⟨hp3, hp4⟩ := hp2 h
          rw [if_pos h] at hp1
          refine Ev.bind hp1 ?_
          have q1 : ¬ bestV l (l.length - 1) 0 > costT l 0 ts := by
            have := best_le l (l.length - 1) 0 ts (by omega)
            omega
          have q2 : ¬ bestV l (l.length - 1) 0 > costR l (bkR l.length 0) := by
            obtain ⟨us, u1, u2⟩ := bkR_tr l.length 0
            rw [u2, trR_cost]
            have := best_le l (l.length - 1) 0 us (by omega)
            omega
          have q3 : (((firstR l (l.length - 1) 0).length : Int) != (l.length : Int)) = false := by
            rw [hfl, show ((l.length - 1 + 1 : Nat) : Int) = l.length by omega]; simp
          apply Ev.step
          focus (intro k; simp only [lw_BookmatchLeast.j9, if_true, if_neg q1, if_neg q2, q3]; rfl)
          apply Ev.step
          focus (intro k; simp only [lw_BookmatchLeast.j10, Bool.false_eq_true, if_false]; rfl)
          apply Ev.step
          focus (intro k; simp only [lw_BookmatchLeast.j11]; rfl)
          have tr := tab_rng hk hp3 hp4
          have bb : 0 ≤ bestV l (l.length - 1) 0 ∧ bestV l (l.length - 1) 0 ≤ 6400000 := by
            have a0 := Lm_bd hk (l.length - 1) 0 false (Int.le_refl 0) (by omega)
            have a1 := Lm_bd hk (l.length - 1) 0 true (Int.le_refl 0) (by omega)
            unfold bestV
            omega
          refine Ev.bind (Proves_ev l _ tab tr) ?_
          rw [tab_pvs h hp3 hp4, decide_eq_true (Int.le_refl _)]
          simp only [if_true]
          rw [wr (x := bestV l (l.length - 1) 0 + 1) (by omega)]
          refine Ev.bind (Proves_ev l _ tab tr) ?_
          rw [tab_pvs h hp3 hp4, decide_eq_false (by omega)]
          apply Ev.step
          focus (intro k; simp only [lw_BookmatchLeast.j12, Bool.false_eq_true, if_false]; rfl)
          apply Ev.step
          focus (intro k; simp only [lw_BookmatchLeast.j13]; rfl)
          refine awk ?_
          simp only [if_true]
          refine Ev.bind (Proves_ev l c p hg) ?_
          by_cases z : pvs l c p = true
          · have := pvs_le hg z
            simp only [if_pos z]
            exact Ev.const1 fun k => by simp [lw_BookmatchLeast.j14, this]
          · simp only [if_neg z]
            exact Ev.const1 fun k => by simp [lw_BookmatchLeast.j14]
        · simp only [if_neg h]
          apply Ev.step
          focus (intro k; simp only [lw_BookmatchLeast.j2, if_neg h]; rfl)
          exact awk1
    · simp only [if_neg qt]; exact out
theorem BookmatchLeast : lw_BookmatchLeast.Pure := by
  intro l tu p c g g1 g2 g3
  exact Ev.rounds (Least_ev l tu p c (fun x hx => ⟨gInt_i64 (g2.2 x hx).1, gInt_i64 (g2.2 x hx).2⟩))
end Go.Proofs.YtglkcinmohjblaaDoor.Pure
