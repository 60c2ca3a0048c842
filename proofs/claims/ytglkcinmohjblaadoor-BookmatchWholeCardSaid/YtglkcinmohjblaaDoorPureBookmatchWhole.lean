import Derived.Test.YtglkcinmohjblaaDoorXAx34
import Derived.Test.YtglkcinmohjblaaDoorXAx44
import Derived.Test.YtglkcinmohjblaaDoorXAx50
import Derived.Test.YtglkcinmohjblaaDoorXAx53
import Derived.Test.YtglkcinmohjblaaDoorXAx39
import Derived.Test.YtglkcinmohjblaaDoorXAx40
import Derived.Test.YtglkcinmohjblaaDoorXAx58
set_option linter.unusedVariables false
set_option linter.unusedSimpArgs false
namespace Go.Proofs.YtglkcinmohjblaaDoor.XA
set_option linter.unusedVariables false
set_option linter.unusedSimpArgs false
open Go.RowKit Opens YtglkcinmohjblaaDoorW.PrintWords YtglkcinmohjblaaDoorW.PrintLast YtglkcinmohjblaaDoorW.PrintMore
theorem wr {x : Int} (h : -9223372036854775808 ≤ x ∧ x ≤ 9223372036854775807) : wrap64 x = x := by unfold wrap64; omega
theorem rd_at {xs : List Int} {i : Int} (h0 : 0 ≤ i) (h1 : i < xs.length) : ∃ h : i.toNat < xs.length, rd xs i = xs[i.toNat] := by
  have h : i.toNat < xs.length := by omega
  refine ⟨h, ?_⟩
  unfold rd
  rw [List.getD_eq_getElem?_getD, List.getElem?_eq_getElem h]
  rfl
theorem rd_mem {xs : List Int} {i : Int} (h0 : 0 ≤ i) (h1 : i < xs.length) : rd xs i ∈ xs := by
  obtain ⟨h, e⟩ := rd_at h0 h1
  rw [e]; exact List.getElem_mem h
theorem mem_rd {xs : List Int} {x : Int} (h : x ∈ xs) : ∃ i : Int, 0 ≤ i ∧ i < xs.length ∧ rd xs i = x := by
  obtain ⟨n, hn, e⟩ := List.mem_iff_getElem.1 h
  refine ⟨n, by omega, by omega, ?_⟩
  obtain ⟨h', e'⟩ := rd_at (xs := xs) (i := n) (by omega) (by omega)
  rw [e', ← e]; rfl
theorem rd_ext {xs ys : List Int} (hl : xs.length = ys.length) (h : ∀ i : Int, 0 ≤ i → i < xs.length → rd xs i = rd ys i) : xs = ys := by
  apply List.ext_getElem hl
  intro n h1 h2
  have := h n (by omega) (by omega)
  obtain ⟨_, e1⟩ := rd_at (xs := xs) (i := n) (by omega) (by omega)
  obtain ⟨_, e2⟩ := rd_at (xs := ys) (i := n) (by omega) (by omega)
  rw [e1, e2] at this
  exact this
theorem rd_reverse {xs : List Int} {i : Int} (h0 : 0 ≤ i) (h1 : i < xs.length) : rd xs.reverse i = rd xs (xs.length - 1 - i) := by
  obtain ⟨_, e1⟩ := rd_at (xs := xs.reverse) (i := i) h0 (by rw [List.length_reverse]; omega)
  obtain ⟨_, e2⟩ := rd_at (xs := xs) (i := xs.length - 1 - i) (by omega) (by omega)
  rw [e1, e2, List.getElem_reverse]
  congr 1
  omega
theorem rd_set {xs : List Int} {i j v : Int} (h0 : 0 ≤ i) (h1 : i < xs.length) (hj0 : 0 ≤ j) (hj : j < xs.length) : rd (xs.set i.toNat v) j = if j = i then v else rd xs j := by
  obtain ⟨_, e1⟩ := rd_at (xs := xs.set i.toNat v) (i := j) hj0 (by rw [List.length_set]; omega)
  obtain ⟨_, e2⟩ := rd_at (xs := xs) (i := j) hj0 hj
  rw [e1, e2, List.getElem_set]
  by_cases e : j = i
  · subst e; simp
  · rw [if_neg (by omega), if_neg e]
def okB (xs : List Int) : Bool := xs.all fun x => decide (0 ≤ x ∧ x ≤ 1000)
theorem okB_rd {xs : List Int} (h : okB xs = true) {i : Int} (h0 : 0 ≤ i) (h1 : i < xs.length) : 0 ≤ rd xs i ∧ rd xs i ≤ 1000 := by
  unfold okB at h
  rw [List.all_eq_true] at h
  simpa using h _ (rd_mem h0 h1)
theorem okB_of {xs : List Int} (h : ∀ i : Int, 0 ≤ i → i < xs.length → 0 ≤ rd xs i ∧ rd xs i ≤ 1000) : okB xs = true := by
  unfold okB
  rw [List.all_eq_true]
  intro x hx
  obtain ⟨i, h0, h1, e⟩ := mem_rd hx
  have := h i h0 h1
  rw [e] at this
  simpa using this
theorem okB_not {xs : List Int} (h : okB xs = false) : ∃ i : Int, 0 ≤ i ∧ i < xs.length ∧ ¬ (0 ≤ rd xs i ∧ rd xs i ≤ 1000) := by
  by_cases q : ∃ i : Int, 0 ≤ i ∧ i < xs.length ∧ ¬ (0 ≤ rd xs i ∧ rd xs i ≤ 1000)
  · exact q
  · have : okB xs = true := okB_of fun i h0 h1 => Classical.byContradiction fun c => q ⟨i, h0, h1, c⟩
    rw [this] at h; cases h
def chk (xs : List Int) : Int := if 1 ≤ xs.length ∧ xs.length ≤ 64 then (if okB xs = true then 0 else 6) else 1
theorem min0 (xs : List Int) (hl : xs.length ≤ 64) : ∀ (m : Nat) (i acc : Int) (k : Nat), 0 ≤ i → i + m = xs.length → m < k →
    ∃ r, slices_Min_int_int.l0 k xs acc i = some r ∧ (r < 0 ↔ acc < 0 ∨ ∃ j, i ≤ j ∧ j < xs.length ∧ rd xs j < 0) := by
  intro m
  induction m with
  | zero =>
    intro i acc k h0 hm hk
    obtain ⟨k, rfl⟩ : ∃ q, k = q + 1 := ⟨k - 1, by omega⟩
    simp only [slices_Min_int_int.l0]
    rw [if_neg (by omega)]
    refine ⟨acc, rfl, fun h => .inl h, ?_⟩
    rintro (h | ⟨j, h1, h2, _⟩)
    · exact h
    · omega
  | succ m ih =>
    intro i acc k h0 hm hk
    obtain ⟨k, rfl⟩ : ∃ q, k = q + 1 := ⟨k - 1, by omega⟩
    simp only [slices_Min_int_int.l0]
    rw [if_pos (by omega), if_pos h0, wr (x := i + 1) (by omega)]
    obtain ⟨r, h1, h2⟩ := ih (i + 1) (mn acc (rd xs i)) k (by omega) (by omega) (by omega)
    refine ⟨r, h1, h2.trans ⟨?_, ?_⟩⟩
    · rintro (h | ⟨j, q1, q2, q3⟩)
      · unfold mn at h
        split at h
        · exact .inr ⟨i, by omega, by omega, h⟩
        · exact .inl h
      · exact .inr ⟨j, by omega, q2, q3⟩
    · rintro (h | ⟨j, q1, q2, q3⟩)
      · left; unfold mn; split <;> omega
      · by_cases e : j = i
        · subst e; left; unfold mn; split <;> omega
        · exact .inr ⟨j, by omega, q2, q3⟩
theorem max0 (xs : List Int) (hl : xs.length ≤ 64) : ∀ (m : Nat) (i acc : Int) (k : Nat), 0 ≤ i → i + m = xs.length → m < k →
    ∃ r, slices_Max_int_int.l0 k xs acc i = some r ∧ (r > 1000 ↔ acc > 1000 ∨ ∃ j, i ≤ j ∧ j < xs.length ∧ rd xs j > 1000) := by
  intro m
  induction m with
  | zero =>
    intro i acc k h0 hm hk
    obtain ⟨k, rfl⟩ : ∃ q, k = q + 1 := ⟨k - 1, by omega⟩
    simp only [slices_Max_int_int.l0]
    rw [if_neg (by omega)]
    refine ⟨acc, rfl, fun h => .inl h, ?_⟩
    rintro (h | ⟨j, h1, h2, _⟩)
    · exact h
    · omega
  | succ m ih =>
    intro i acc k h0 hm hk
    obtain ⟨k, rfl⟩ : ∃ q, k = q + 1 := ⟨k - 1, by omega⟩
    simp only [slices_Max_int_int.l0]
    rw [if_pos (by omega), if_pos h0, wr (x := i + 1) (by omega)]
    obtain ⟨r, h1, h2⟩ := ih (i + 1) (mx acc (rd xs i)) k (by omega) (by omega) (by omega)
    refine ⟨r, h1, h2.trans ⟨?_, ?_⟩⟩
    · rintro (h | ⟨j, q1, q2, q3⟩)
      · unfold mx at h
        split at h
        · exact .inr ⟨i, by omega, by omega, h⟩
        · exact .inl h
      · exact .inr ⟨j, by omega, q2, q3⟩
    · rintro (h | ⟨j, q1, q2, q3⟩)
      · left; unfold mx; split <;> omega
      · by_cases e : j = i
        · subst e; left; unfold mx; split <;> omega
        · exact .inr ⟨j, by omega, q2, q3⟩
theorem check_f (xs : List Int) (j : Nat) : c_Check.f (100 + j) xs = some (chk xs) := by
  unfold c_Check.f chk
  rw [show 100 + j = 99 + j + 1 by omega]
  simp only [c_Check.j0]
  by_cases h1 : (xs.length : Int) < 1
  · simp only [if_pos h1, if_true]
    rw [if_neg (by omega)]
  · rw [if_neg h1]
    by_cases h2 : (xs.length : Int) > 64
    · rw [if_pos (by simpa using h2), if_neg (by omega)]
    · rw [if_neg (by simpa using h2), if_pos (by omega)]
      unfold slices_Min_int_int.f slices_Max_int_int.f
      rw [if_neg h1, if_neg h1, if_pos (by omega), if_pos (by omega)]
      obtain ⟨a, e1, p1⟩ := min0 xs (by omega) (xs.length - 1) 1 (rd xs 0) (99 + j) (by omega) (by omega) (by omega)
      obtain ⟨b, e2, p2⟩ := max0 xs (by omega) (xs.length - 1) 1 (rd xs 0) (99 + j) (by omega) (by omega) (by omega)
      rw [e1, e2]
      simp only [Option.bind_some]
      by_cases ok : okB xs = true
      · have z : ∀ i : Int, 0 ≤ i → i < xs.length → 0 ≤ rd xs i ∧ rd xs i ≤ 1000 := fun i => okB_rd ok
        have n1 : ¬ a < 0 := by
          intro h
          rcases p1.1 h with h | ⟨j, q1, q2, q3⟩
          · have := z 0 (by omega) (by omega); omega
          · have := z j (by omega) (by omega); omega
        have n2 : ¬ b > 1000 := by
          intro h
          rcases p2.1 h with h | ⟨j, q1, q2, q3⟩
          · have := z 0 (by omega) (by omega); omega
          · have := z j (by omega) (by omega); omega
        rw [if_neg n1, if_neg n2, if_pos ok]
      · obtain ⟨i, q1, q2, q3⟩ := okB_not (by simpa using ok)
        rw [if_neg ok]
        by_cases n1 : a < 0
        · rw [if_pos n1]
        · rw [if_neg n1]
          have n2 : b > 1000 := by
            apply p2.2
            by_cases e : i = 0
            · subst e
              left
              by_cases u : rd xs 0 < 0
              · exact absurd (p1.2 (.inl u)) n1
              · omega
            · right
              refine ⟨i, by omega, by omega, ?_⟩
              by_cases u : rd xs i < 0
              · exact absurd (p1.2 (.inr ⟨i, by omega, by omega, u⟩)) n1
              · omega
          rw [if_pos n2]

theorem clone_f (xs : List Int) (hl : xs.length ≤ 1000) : slices_Clone_int_int.f xs = some xs := by
  unfold slices_Clone_int_int.f
  simp only [Option.bind_some, List.length_nil, List.nil_append]
  rw [if_pos (by omega)]
theorem rev0 (xs : List Int) (hl : xs.length ≤ 1000) : ∀ (m : Nat) (i : Int) (ys : List Int) (k : Nat), 0 ≤ i → 2 * i + m = xs.length + 1 ∨ (m = 0 ∧ 2 * i = xs.length + 1) → m < k → ys.length = xs.length →
    (∀ j : Int, 0 ≤ j → j < xs.length → rd ys j = if j < i ∨ j > xs.length - 1 - i then rd xs (xs.length - 1 - j) else rd xs j) → slices_Reverse_int_int.l0 k ys i (xs.length - 1 - i) = some xs.reverse := by
  intro m
  induction m using Nat.strongRecOn with
  | _ m ih =>
    intro i ys k h0 hm hk hy hinv
    obtain ⟨k, rfl⟩ : ∃ q, k = q + 1 := ⟨k - 1, by omega⟩
    simp only [slices_Reverse_int_int.l0]
    by_cases c : i < xs.length - 1 - i
    · have c1 : (0 : Int) ≤ xs.length - 1 - i := by omega
      have c2 : (xs.length : Int) - 1 - i < (ys.length : Int) := by omega
      have c3 : i < (ys.length : Int) := by omega
      simp only [c, c1, c2, c3, h0, if_true]
      rw [wr (x := i + 1) (by omega), wr (x := (xs.length : Int) - 1 - i - 1) (by omega), show (xs.length : Int) - 1 - i - 1 = xs.length - 1 - (i + 1) by omega]
      refine ih (m - 2) (by omega) (i + 1) _ k (by omega) (by omega) (by omega) (by simp [hy]) ?_
      intro j hj0 hj1
      rw [rd_set c1 (by rw [List.length_set]; exact c2) hj0 (by rw [List.length_set]; omega), rd_set h0 c3 hj0 (by omega)]
      have e1 := hinv i h0 (by omega)
      have e2 := hinv (xs.length - 1 - i) c1 (by omega)
      have e3 := hinv j hj0 hj1
      rw [if_neg (by omega)] at e1 e2
      by_cases q1 : j = xs.length - 1 - i
      · subst q1
        rw [if_pos rfl, if_pos (by omega), e1, show (xs.length : Int) - 1 - (xs.length - 1 - i) = i by omega]
      · rw [if_neg q1]
        by_cases q2 : j = i
        · subst q2
          rw [if_pos rfl, if_pos (by omega), e2]
        · rw [if_neg q2, e3]
          by_cases q3 : j < i ∨ j > xs.length - 1 - i
          · rw [if_pos q3, if_pos (by omega)]
          · rw [if_neg q3, if_neg (by omega)]
    · rw [if_neg c]
      congr 1
      apply rd_ext (by rw [hy, List.length_reverse])
      intro j hj0 hj1
      rw [hinv j hj0 (by omega), rd_reverse hj0 (by omega)]
      by_cases q3 : j < i ∨ j > xs.length - 1 - i
      · rw [if_pos q3]
      · rw [if_neg q3, show j = xs.length - 1 - j by omega, show (xs.length : Int) - 1 - (xs.length - 1 - j) = j by omega]
        congr 1
        omega
theorem mirror_f (xs : List Int) (hl : xs.length ≤ 90) (j : Nat) : c_mirror.f (100 + j) xs = some xs.reverse := by
  unfold c_mirror.f slices_Reverse_int_int.f
  rw [clone_f xs (by omega)]
  simp only [Option.bind_some]
  rw [wr (by omega)]
  have := rev0 xs (by omega) (xs.length + 1) 0 xs (100 + j) (by omega) (by omega) (by omega) rfl (fun j h0 h1 => by rw [if_neg (by omega)])
  rw [show (xs.length : Int) - 1 - 0 = xs.length - 1 by omega] at this
  rw [this]
  rfl
theorem Mirror_f (xs : List Int) (j : Nat) : c_Mirror.f (100 + j) xs = some (if chk xs = 0 then (xs.reverse, 0) else ([], chk xs)) := by
  unfold c_Mirror.f
  rw [check_f]
  simp only [Option.bind_some]
  by_cases h : chk xs = 0
  · have hl : xs.length ≤ 64 := by unfold chk at h; split at h <;> omega
    rw [if_pos h, if_pos h, mirror_f xs (by omega)]
    rfl
  · rw [if_neg h, if_neg h]
structure Good (a : List Int) : Prop where
  lo : 1 ≤ a.length
  hi : a.length ≤ 64
  ok : okB a = true
theorem good_iff (a : List Int) : chk a = 0 ↔ Good a := by
  unfold chk
  constructor
  · intro h
    split at h
    · next q =>
      split at h
      · next p => exact ⟨q.1, q.2, p⟩
      · omega
    · omega
  · rintro ⟨h1, h2, h3⟩
    rw [if_pos ⟨h1, h2⟩, if_pos h3]
def two (a b : List Int) : Int := if chk a = 0 then (if chk b = 0 then (if a.length = b.length then 0 else 1) else chk b) else chk a
theorem two_iff (a b : List Int) : two a b = 0 ↔ Good a ∧ Good b ∧ a.length = b.length := by
  unfold two
  by_cases h1 : chk a = 0
  · rw [if_pos h1]
    by_cases h2 : chk b = 0
    · rw [if_pos h2]
      have g1 := (good_iff a).1 h1
      have g2 := (good_iff b).1 h2
      constructor
      · intro h; refine ⟨g1, g2, ?_⟩; split at h <;> omega
      · rintro ⟨_, _, h⟩; rw [if_pos h]
    · rw [if_neg h2]
      exact ⟨fun h => absurd h h2, fun h => absurd ((good_iff b).2 h.2.1) h2⟩
  · rw [if_neg h1]
    exact ⟨fun h => absurd h h1, fun h => absurd ((good_iff a).2 h.1) h1⟩
theorem both_f (a b : List Int) (j : Nat) : c_both.f (100 + j) a b = some (two a b) := by
  unfold c_both.f two
  rw [check_f, check_f]
  simp only [Option.bind_some]
  by_cases h1 : chk a = 0
  · rw [if_pos h1, if_pos h1]
    by_cases h2 : chk b = 0
    · rw [if_pos h2, if_pos h2]
      by_cases h3 : a.length = b.length
      · rw [if_pos h3, if_pos (by omega)]
      · rw [if_neg h3, if_neg (by omega)]
    · rw [if_neg h2, if_neg h2]
  · rw [if_neg h1, if_neg h1]
def ab (x y : Int) : Int := if x > y then x - y else y - x
def mo (a : List Int) (b : Int) : List Int → Int → Int → Int → Int × Int
  | [], _, s, n => (s, n)
  | y :: ys, i, s, n => if 0 ≤ i + b ∧ i + b < a.length then mo a b ys (i + 1) (s + ab (rd a (i + b)) y) (n + 1) else mo a b ys (i + 1) s n
theorem okB_cons {y : Int} {ys : List Int} (h : okB (y :: ys) = true) : (0 ≤ y ∧ y ≤ 1000) ∧ okB ys = true := by
  unfold okB at *
  simp only [List.all_cons, Bool.and_eq_true, decide_eq_true_eq] at h
  exact h
theorem mm_mo (a : List Int) (ha : Good a) (b : Int) (hb : -64 ≤ b ∧ b ≤ 64) : ∀ (ys : List Int) (i s n : Int), okB ys = true → 0 ≤ i → i + ys.length ≤ 64 → 0 ≤ s → s ≤ 1000 * i → 0 ≤ n → n ≤ i →
    mm a b ys i s n = mo a b ys i s n
  | [], i, s, n, _, _, _, _, _, _, _ => rfl
  | y :: ys, i, s, n, hy, h0, hi, hs0, hs, hn0, hn => by
    obtain ⟨hy1, hy2⟩ := okB_cons hy
    simp only [List.length_cons] at hi
    unfold mm mo
    rw [wr (x := i + b) (by omega)]
    by_cases h : 0 ≤ i + b ∧ i + b < a.length
    · rw [if_pos h, if_pos h]
      have hr := okB_rd ha.ok h.1 h.2
      have e : mx (wrap64 (rd a (i + b) - y)) (wrap64 (y - rd a (i + b))) = ab (rd a (i + b)) y := by
        rw [wr (by omega), wr (by omega)]; unfold mx ab; split <;> split <;> omega
      have hab : 0 ≤ ab (rd a (i + b)) y ∧ ab (rd a (i + b)) y ≤ 1000 := by unfold ab; split <;> omega
      rw [e, wr (by omega), wr (by omega)]
      exact mm_mo a ha b hb ys _ _ _ hy2 (by omega) (by omega) (by omega) (by omega) (by omega) (by omega)
    · rw [if_neg h, if_neg h]
      exact mm_mo a ha b hb ys _ _ _ hy2 (by omega) (by omega) (by omega) (by omega) (by omega) (by omega)
theorem mismatch_f {a b : List Int} (ha : Good a) (hb : Good b) {d : Int} (h : -64 ≤ d ∧ d ≤ 64) : c_mismatch.f a b d = some (mo a d b 0 0 0) := by
  unfold c_mismatch.f
  rw [mm_mo a ha d h b 0 0 0 hb.ok (by omega) (by have := hb.hi; omega) (by omega) (by omega) (by omega) (by omega)]
theorem Mismatch_f (a b : List Int) (j : Nat) : c_Mismatch.f (100 + j) a b = some (if two a b = 0 then ((mo a 0 b 0 0 0).1, 0) else (0, two a b)) := by
  unfold c_Mismatch.f
  rw [both_f]
  simp only [Option.bind_some]
  by_cases h : two a b = 0
  · obtain ⟨ha, hb, hl⟩ := (two_iff a b).1 h
    rw [if_pos h, if_pos h, mismatch_f ha hb (by omega)]
    rfl
  · rw [if_neg h, if_neg h]
theorem drop_rd {xs : List Int} {i : Int} (h0 : 0 ≤ i) (h1 : i < xs.length) : xs.drop i.toNat = rd xs i :: xs.drop (i + 1).toNat := by
  obtain ⟨h, e⟩ := rd_at h0 h1
  rw [e, show (i + 1).toNat = i.toNat + 1 by omega]
  exact List.drop_eq_getElem_cons h
theorem mo_cons (a : List Int) (b y : Int) (ys : List Int) (i s n : Int) : mo a b (y :: ys) i s n = if 0 ≤ i + b ∧ i + b < a.length then mo a b ys (i + 1) (s + ab (rd a (i + b)) y) (n + 1) else mo a b ys (i + 1) s n := rfl
theorem ab_bd {x y : Int} (hx : 0 ≤ x ∧ x ≤ 1000) (hy : 0 ≤ y ∧ y ≤ 1000) : 0 ≤ ab x y ∧ ab x y ≤ 1000 := by unfold ab; split <;> omega
theorem kj {k : Nat} (n : Nat) (h : n ≤ k) : ∃ j, k = n + j := Nat.exists_eq_add_of_le h
theorem check_k (xs : List Int) {k : Nat} (hk : 100 ≤ k) : c_Check.f k xs = some (chk xs) := by obtain ⟨j, rfl⟩ := kj _ hk; exact check_f xs j
theorem Mirror_k (xs : List Int) {k : Nat} (hk : 100 ≤ k) : c_Mirror.f k xs = some (if chk xs = 0 then (xs.reverse, 0) else ([], chk xs)) := by obtain ⟨j, rfl⟩ := kj _ hk; exact Mirror_f xs j
theorem Mismatch_k (a b : List Int) {k : Nat} (hk : 100 ≤ k) : c_Mismatch.f k a b = some (if two a b = 0 then ((mo a 0 b 0 0 0).1, 0) else (0, two a b)) := by obtain ⟨j, rfl⟩ := kj _ hk; exact Mismatch_f a b j
def ds : List Int → List Int → Int
  | x :: xs, y :: ys => ab x y + ds xs ys
  | _, _ => 0
theorem mo_ds (a : List Int) : ∀ (ys : List Int) (i s n : Int), 0 ≤ i → i + ys.length ≤ a.length → (mo a 0 ys i s n).1 = s + ds (a.drop i.toNat) ys
  | [], i, s, n, _, _ => by
    simp only [mo]
    cases a.drop i.toNat <;> simp [ds]
  | y :: ys, i, s, n, h0, h1 => by
    simp only [List.length_cons] at h1
    rw [mo_cons, if_pos (by omega), mo_ds a ys _ _ _ (by omega) (by omega), drop_rd h0 (by omega), Int.add_zero]
    simp only [ds]
    omega
theorem mo_ds0 (a b : List Int) (h : a.length = b.length) : (mo a 0 b 0 0 0).1 = ds a b := by
  rw [mo_ds a b 0 0 0 (by omega) (by omega)]
  simp
theorem chk_reverse (a : List Int) : chk a.reverse = chk a := by
  unfold chk okB
  rw [List.length_reverse, List.all_reverse]
def face (f b : List Int) (t : Bool) : List Int × Int := if t = true then (if chk b = 0 then (b.reverse, 0) else ([], chk b)) else (if chk f = 0 then (f, 0) else ([], chk f))
theorem face_k (a0 a1 : ByteArray) (a2 a3 a4 a5 a6 a7 a8 a9 : Int) (f b : List Int) (t : Bool) {k : Nat} (hk : 100 ≤ k) : c_Face.f k a0 a1 a2 a3 a4 a5 a6 a7 a8 a9 f b t = some (face f b t) := by
  unfold c_Face.f face
  by_cases h : t = true
  · rw [if_pos h, if_pos h, Mirror_k _ hk]
    rfl
  · rw [if_neg h, if_neg h, check_k _ hk]
    simp only [Option.bind_some]
    by_cases z : chk f = 0
    · have g := ((good_iff f).1 z).hi
      rw [if_pos z, if_pos z, clone_f _ (by omega)]
      rfl
    · rw [if_neg z, if_neg z]
def btw (x y : List Int × Int) : Int × Int := if x.2 = 0 then (if y.2 = 0 then (if two x.1 y.1 = 0 then ((mo x.1 0 y.1 0 0 0).1, 0) else (0, two x.1 y.1)) else (0, y.2)) else (0, x.2)
theorem between_k (a0 a1 : ByteArray) (a2 a3 a4 a5 a6 a7 a8 a9 : Int) (f b : List Int) (t : Bool) (c0 c1 : ByteArray) (c2 c3 c4 c5 c6 c7 c8 c9 : Int) (f' b' : List Int) (t' : Bool) {k : Nat} (hk : 100 ≤ k) :
    c_Between.f k a0 a1 a2 a3 a4 a5 a6 a7 a8 a9 f b t c0 c1 c2 c3 c4 c5 c6 c7 c8 c9 f' b' t' = some (btw (face f b t) (face f' b' t')) := by
  unfold c_Between.f btw
  rw [face_k _ _ _ _ _ _ _ _ _ _ _ _ _ hk, face_k _ _ _ _ _ _ _ _ _ _ _ _ _ hk]
  simp only [Option.bind_some]
  by_cases h1 : (face f b t).2 = 0
  · rw [if_pos h1, if_pos h1]
    by_cases h2 : (face f' b' t').2 = 0
    · rw [if_pos h2, if_pos h2, Mismatch_k _ _ hk]
      rfl
    · rw [if_neg h2, if_neg h2]
  · rw [if_neg h1, if_neg h1]
theorem rdT_app (p s : List S62) (e : S62) : rd_T62 (p ++ e :: s) (p.length : Int) = e := by
  simp [rd_T62, List.getD_eq_getElem?_getD]
theorem len_app {α : Type} (p s : List α) (e : α) : ((p.length : Nat) : Int) < ((p ++ e :: s).length : Int) := by simp; omega
theorem app_snoc {α : Type} (p s : List α) (e : α) : p ++ e :: s = (p ++ [e]) ++ s := by simp
theorem len_snoc {α : Type} (p : List α) (e : α) : ((p ++ [e]).length : Int) = (p.length : Int) + 1 := by simp
theorem Ev.eq {α : Type} {g : Nat → Option α} {r s : α} (h : Ev g r) (e : r = s) : Ev g s := e ▸ h
theorem Ev.const {α : Type} {g : Nat → Option α} {r : α} (h : ∀ k, g k = some r) : Ev g r := ⟨0, fun k _ => h k⟩
theorem Ev.const1 {α : Type} {g : Nat → Option α} {r : α} (h : ∀ k, g (k + 1) = some r) : Ev g r := ⟨1, fun k hk => by
  obtain ⟨m, rfl⟩ : ∃ m, k = m + 1 := ⟨k - 1, by omega⟩
  exact h m⟩
theorem Ev.late {α : Type} {g : Nat → Option α} {r : α} (K : Nat) (h : ∀ k, K ≤ k → g k = some r) : Ev g r := ⟨K, h⟩
theorem rdm {l : List S62} {i : Int} (h0 : 0 ≤ i) (h1 : i < l.length) : rd_T62 l i ∈ l := by
  have h : i.toNat < l.length := by omega
  simp [rd_T62, List.getD_eq_getElem?_getD, List.getElem?_eq_getElem h]

def ckA : List S62 → Int
  | [] => 0
  | s :: r => if chk s.f5 = 0 then (if chk s.f6 = 0 then ckA r else chk s.f6) else chk s.f5
def eqL (n : Int) (s : S62) : Bool := decide ((s.f5.length : Int) = n) && decide ((s.f6.length : Int) = n)
def ckB (l s : List S62) : Int := if s.all (eqL (rd_T62 l 0).f5.length) = true then 0 else 1
def ck (l : List S62) : Int := if (l.length : Int) > 64 then 7 else if (l.length : Int) = 0 then 1 else if ckA l = 0 then ckB l l else ckA l
theorem chk_ev (xs : List Int) : Ev (fun k => c_Check.f k xs) (chk xs) := Ev.late 100 fun k hk => check_k xs hk
theorem check_1 (s : S62) (n : Int) : m_check_1.f s.f0 s.f1 s.f2 s.f3.f0.f0 s.f3.f0.f1 s.f3.f0.f2 s.f3.f1.f0 s.f3.f1.f1 s.f3.f1.f2 s.f4 s.f5 s.f6 n = some (!(eqL n s)) := by
  unfold m_check_1.f eqL
  by_cases h : (s.f5.length : Int) = n
  · rw [if_pos h]
    by_cases h2 : (s.f6.length : Int) = n <;> simp [h, h2]
  · rw [if_neg h]; simp [h]
theorem idx52 (n : Int) : ∀ (s p : List S62), (p ++ s).length ≤ 1000 → ∃ r, Ev (fun k => s_52_by_bookmatch_check_1.l0 k (p ++ s) ((p ++ s).length : Int) (p.length : Int) n) r ∧ (decide (r ≥ 0) = !(s.all (eqL n)))
  | [], p, hl => ⟨-1, Ev.const1 fun k => by simp only [s_52_by_bookmatch_check_1.l0]; rw [if_neg (by simp)], by simp⟩
  | e :: s, p, hl => by
    have hs : ∀ k, s_52_by_bookmatch_check_1.l0 (k + 1) (p ++ e :: s) ((p ++ e :: s).length : Int) (p.length : Int) n = if (!(eqL n e)) = true then some (p.length : Int) else s_52_by_bookmatch_check_1.l0 k (p ++ e :: s) ((p ++ e :: s).length : Int) (wrap64 ((p.length : Int) + 1)) n := fun k => by
      simp only [s_52_by_bookmatch_check_1.l0]
      rw [if_pos (len_app p s e), if_pos (by omega), if_pos (len_app p s e), rdT_app, check_1]
      rfl
    by_cases hb : eqL n e = true
    · have hw : wrap64 ((p.length : Int) + 1) = ((p ++ [e]).length : Int) := by rw [wr (by simp at hl; omega), len_snoc]
      obtain ⟨r, h, hr⟩ := idx52 n s (p ++ [e]) (by simpa using hl)
      rw [← app_snoc] at h
      refine ⟨r, Ev.step (fun k => ?_) h, by rw [hr]; simp [hb]⟩
      rw [hs, hb, if_neg (by simp), hw]
    · refine ⟨p.length, Ev.const1 fun k => ?_, by simp [hb]⟩
      rw [hs, if_pos (by simp [hb])]
theorem cont_ev (l : List S62) (n : Int) (hl : l.length ≤ 1000) : Ev (fun k => s_46_by_bookmatch_check_1.f k l n) (!(l.all (eqL n))) := by
  obtain ⟨r, h, hr⟩ := idx52 n l [] (by simpa using hl)
  unfold s_46_by_bookmatch_check_1.f
  refine Ev.bind (a := r) (f := fun k t => some (decide (t ≥ 0))) h ?_
  exact Ev.const fun k => by rw [hr]
theorem check0 (l : List S62) (h1 : 1 ≤ l.length) (h2 : l.length ≤ 64) : ∀ (s p : List S62), l = p ++ s → Ev (fun k => m_check.l0 k l l (l.length : Int) (p.length : Int)) (if ckA s = 0 then ckB l l else ckA s)
  | [], p, hp => by
    have hz : ¬ ((p.length : Int) < (l.length : Int)) := by rw [hp]; simp
    refine Ev.step (f := fun k => (s_46_by_bookmatch_check_1.f k l (((rd_T62 l 0).f5).length : Int)).bind fun t121 => (if t121 = true then (some 1) else (some 0))) (fun k => by
      simp only [m_check.l0]
      rw [if_neg hz, if_pos (by omega)]) ?_
    refine Ev.bind (f := fun k t => if t = true then some 1 else some 0) (cont_ev l _ (by omega)) (Ev.const fun k => ?_)
    simp only [ckA, ckB, if_true]
    cases l.all (eqL (rd_T62 l 0).f5.length) <;> simp
  | e :: s, p, hp => by
    have hz : (p.length : Int) < (l.length : Int) := by rw [hp]; exact len_app p s e
    have he : rd_T62 l (p.length : Int) = e := by rw [hp]; exact rdT_app p s e
    have hw : wrap64 ((p.length : Int) + 1) = ((p ++ [e]).length : Int) := by rw [wr (by omega), len_snoc]
    have ih := check0 l h1 h2 s (p ++ [e]) (by rw [hp, app_snoc])
    refine Ev.step (f := fun k => m_check.l1 k l l (l.length : Int) (p.length : Int) [e.f5, e.f6] 2 0) (fun k => by
      simp only [m_check.l0]
      rw [if_pos hz, if_pos (by omega), if_pos hz, he]
      rfl) ?_
    refine Ev.step (f := fun k => (c_Check.f k e.f5).bind fun t => if t = 0 then m_check.l1 k l l (l.length : Int) (p.length : Int) [e.f5, e.f6] 2 1 else some t) (fun k => by simp only [m_check.l1]; rw [if_pos (by omega), if_pos (by omega), if_pos (by simp), show wrap64 ((0 : Int) + 1) = 1 from by decide +kernel]; rfl) ?_
    refine Ev.bind (f := fun k t => if t = 0 then m_check.l1 k l l (l.length : Int) (p.length : Int) [e.f5, e.f6] 2 1 else some t) (chk_ev e.f5) ?_
    by_cases c1 : chk e.f5 = 0
    · simp only [ckA, c1, if_true]
      refine Ev.step (f := fun k => (c_Check.f k e.f6).bind fun t => if t = 0 then m_check.l1 k l l (l.length : Int) (p.length : Int) [e.f5, e.f6] 2 2 else some t) (fun k => by simp only [m_check.l1]; rw [if_pos (by omega), if_pos (by omega), if_pos (by simp), show wrap64 ((1 : Int) + 1) = 2 from by decide +kernel]; rfl) ?_
      refine Ev.bind (f := fun k t => if t = 0 then m_check.l1 k l l (l.length : Int) (p.length : Int) [e.f5, e.f6] 2 2 else some t) (chk_ev e.f6) ?_
      by_cases c2 : chk e.f6 = 0
      · simp only [c2, if_true]
        refine Ev.step (f := fun k => m_check.l0 k l l (l.length : Int) (wrap64 ((p.length : Int) + 1))) (fun k => by simp only [m_check.l1]; rw [if_neg (by omega)]) ?_
        rw [hw]; exact ih
      · simp only [if_neg c2]
        exact Ev.const fun k => rfl
    · simp only [ckA, if_neg c1]
      exact Ev.const fun k => rfl
theorem ck_ev (l : List S62) : Ev (fun k => m_check.f k l) (ck l) := by
  unfold m_check.f ck
  by_cases h1 : (l.length : Int) > 64
  · exact Ev.const fun k => by rw [if_pos h1, if_pos h1]
  · by_cases h2 : (l.length : Int) = 0
    · exact Ev.const fun k => by rw [if_neg h1, if_neg h1, if_pos h2, if_pos h2]
    · simp only [if_neg h1, if_neg h2]
      exact check0 l (by omega) (by omega) l [] rfl
structure Ok (l : List S62) : Prop where
  n1 : 1 ≤ l.length
  n2 : l.length ≤ 64
  g : ∀ s ∈ l, Good s.f5 ∧ Good s.f6 ∧ s.f5.length = (rd_T62 l 0).f5.length ∧ s.f6.length = (rd_T62 l 0).f5.length
theorem ckA_good : ∀ (l : List S62), ckA l = 0 → ∀ s ∈ l, Good s.f5 ∧ Good s.f6
  | e :: l, h, s, hs => by
    simp only [ckA] at h
    by_cases c1 : chk e.f5 = 0
    · rw [if_pos c1] at h
      by_cases c2 : chk e.f6 = 0
      · rw [if_pos c2] at h
        rcases List.mem_cons.1 hs with rfl | hs
        · exact ⟨(good_iff _).1 c1, (good_iff _).1 c2⟩
        · exact ckA_good l h s hs
      · rw [if_neg c2] at h; exact absurd h c2
    · rw [if_neg c1] at h; exact absurd h c1
theorem ok_of {l : List S62} (h : ck l = 0) : Ok l := by
  unfold ck at h
  by_cases h1 : (l.length : Int) > 64
  · rw [if_pos h1] at h; omega
  · rw [if_neg h1] at h
    by_cases h2 : (l.length : Int) = 0
    · rw [if_pos h2] at h; omega
    · rw [if_neg h2] at h
      by_cases h3 : ckA l = 0
      · rw [if_pos h3] at h
        unfold ckB at h
        by_cases h4 : l.all (eqL (rd_T62 l 0).f5.length) = true
        · refine ⟨by omega, by omega, fun s hs => ?_⟩
          have := List.all_eq_true.1 h4 s hs
          simp [eqL] at this
          exact ⟨(ckA_good l h3 s hs).1, (ckA_good l h3 s hs).2, by omega, by omega⟩
        · rw [if_neg h4] at h; omega
      · rw [if_neg h3] at h; exact absurd h h3
theorem ckA_of : ∀ (l : List S62), (∀ s ∈ l, Good s.f5 ∧ Good s.f6) → ckA l = 0
  | [], _ => rfl
  | e :: l, h => by
    have h1 := h e (by simp)
    simp only [ckA]
    rw [if_pos ((good_iff _).2 h1.1), if_pos ((good_iff _).2 h1.2)]
    exact ckA_of l fun s hs => h s (by simp [hs])
theorem ok_ck {l : List S62} (h : Ok l) : ck l = 0 := by
  have h1 := h.n1
  have h2 := h.n2
  unfold ck
  rw [if_neg (by omega), if_neg (by omega), if_pos (ckA_of l fun s hs => ⟨(h.g s hs).1, (h.g s hs).2.1⟩)]
  unfold ckB
  rw [if_pos]
  refine List.all_eq_true.2 fun s hs => ?_
  have := h.g s hs
  simp [eqL, this.2.2.1, this.2.2.2]

def cd (s : S62) (t : Bool) : List Int := if t = true then s.f6.reverse else s.f5
def J (l : List S62) (a : Int) (t : Bool) (b : Int) (u : Bool) : Int := ds (cd (rd_T62 l a) t) (cd (rd_T62 l b) u)
theorem good_rev {a : List Int} (h : Good a) : Good a.reverse := (good_iff _).1 (by rw [chk_reverse]; exact (good_iff _).2 h)
theorem cd_good {l : List S62} (h : Ok l) {i : Int} (h0 : 0 ≤ i) (h1 : i < l.length) (t : Bool) : Good (cd (rd_T62 l i) t) ∧ (cd (rd_T62 l i) t).length = (rd_T62 l 0).f5.length := by
  have g := h.g _ (rdm h0 h1)
  unfold cd
  split
  · exact ⟨good_rev g.2.1, by rw [List.length_reverse]; exact g.2.2.2⟩
  · exact ⟨g.1, g.2.2.1⟩
theorem ds_bd : ∀ (a b : List Int), okB a = true → okB b = true → 0 ≤ ds a b ∧ ds a b ≤ 1000 * a.length
  | x :: xs, y :: ys, ha, hb => by
    obtain ⟨hx, hxs⟩ := okB_cons ha
    obtain ⟨hy, hys⟩ := okB_cons hb
    have := ds_bd xs ys hxs hys
    have := ab_bd hx hy
    simp only [ds, List.length_cons]
    omega
  | [], [], _, _ => by simp [ds]
  | [], _ :: _, _, _ => by simp [ds]
  | _ :: _, [], _, _ => by simp [ds]; omega
theorem J_bd {l : List S62} (h : Ok l) {a b : Int} (a0 : 0 ≤ a) (a1 : a < l.length) (b0 : 0 ≤ b) (b1 : b < l.length) (t u : Bool) : 0 ≤ J l a t b u ∧ J l a t b u ≤ 64000 := by
  have ga := (cd_good h a0 a1 t).1
  have gb := (cd_good h b0 b1 u).1
  have := ds_bd _ _ ga.ok gb.ok
  have := ga.hi
  unfold J
  omega
theorem face_cd {s : S62} (h : Good s.f5) (h' : Good s.f6) (t : Bool) : face s.f5 s.f6 t = (cd s t, 0) := by
  unfold face cd
  rw [if_pos ((good_iff _).2 h), if_pos ((good_iff _).2 h')]
  split <;> rfl
theorem btw_ev {l : List S62} (h : Ok l) {a b : Int} (a0 : 0 ≤ a) (a1 : a < l.length) (b0 : 0 ≤ b) (b1 : b < l.length) (t u : Bool) : Ev (fun k => m_between.f k l a t b u) (J l a t b u) := by
  have ga := cd_good h a0 a1 t
  have gb := cd_good h b0 b1 u
  have sa := h.g _ (rdm a0 a1)
  have sb := h.g _ (rdm b0 b1)
  refine Ev.late 100 fun k hk => ?_
  unfold m_between.f
  rw [if_pos a0, if_pos a1, if_pos b0, if_pos b1, between_k _ _ _ _ _ _ _ _ _ _ _ _ _ _ _ _ _ _ _ _ _ _ _ _ _ _ hk, face_cd sa.1 sa.2.1, face_cd sb.1 sb.2.1]
  have ht : two (cd (rd_T62 l a) t) (cd (rd_T62 l b) u) = 0 := (two_iff _ _).2 ⟨ga.1, gb.1, by rw [ga.2, gb.2]⟩
  simp only [btw, if_true, ht, Option.bind_some, mo_ds0 _ _ (ga.2.trans gb.2.symm)]
  rfl
theorem way0 : m_way.f false = some 0 := rfl
theorem way1 : m_way.f true = some 1 := rfl
theorem i02 : (0 : Int) < 2 := by decide
theorem i12 : (1 : Int) < 2 := by decide
theorem i22 : ¬ (2 : Int) < 2 := by decide
theorem i10 : ¬ (1 : Int) = 0 := by decide
theorem w01 : wrap64 ((0 : Int) + 1) = 1 := by decide +kernel
theorem w11 : wrap64 ((1 : Int) + 1) = 2 := by decide +kernel
theorem a01 : (0 : Int) + 1 = 1 := rfl
theorem a11 : (1 : Int) + 1 = 2 := rfl
def sel (p : S51) (t : Bool) : Int := if t = true then p.f1 else p.f0
def upd (p : S51) (t : Bool) (m : Int) : S51 := if t = true then ⟨p.f0, m⟩ else ⟨m, p.f1⟩
theorem mn_min (a b : Int) : mn a b = min a b := by unfold mn; omega
theorem rd51_set {xs : List S51} {i j : Int} {v : S51} (h0 : 0 ≤ i) (h1 : i < xs.length) (hj0 : 0 ≤ j) : rd_T51 (xs.set i.toNat v) j = if j = i then v else rd_T51 xs j := by
  by_cases h : j = i
  · subst h
    have hl : j.toNat < xs.length := by omega
    simp [rd_T51, List.getD_eq_getElem?_getD, List.getElem?_set, hl]
  · have : ¬ i.toNat = j.toNat := by omega
    simp [rd_T51, List.getD_eq_getElem?_getD, List.getElem?_set, h, this]

def Lm (l : List S62) : Nat → Int → Bool → Int
  | 0, _, _ => 0
  | m + 1, i, t => min (J l i t (i + 1) false + Lm l m (i + 1) false) (J l i t (i + 1) true + Lm l m (i + 1) true)
theorem Lm_bd {l : List S62} (h : Ok l) : ∀ (m : Nat) (i : Int) (t : Bool), 0 ≤ i → i + m < l.length → 0 ≤ Lm l m i t ∧ Lm l m i t ≤ 64000 * m
  | 0, i, t, _, _ => by simp [Lm]
  | m + 1, i, t, h0, h1 => by
    have a := Lm_bd h m (i + 1) false (by omega) (by omega)
    have b := Lm_bd h m (i + 1) true (by omega) (by omega)
    have c := J_bd h h0 (by omega) (show 0 ≤ i + 1 by omega) (by omega) t false
    have d := J_bd h h0 (by omega) (show 0 ≤ i + 1 by omega) (by omega) t true
    simp only [Lm]
    omega

theorem least2 {l : List S62} (h : Ok l) (fr : Int) {out : List S51} (hn : out.length = l.length) {i : Int} (h0 : 0 ≤ i) (h1 : i + 1 < l.length) (t : Bool) (c : Int)
    (hb : ∀ u, 0 ≤ sel (rd_T51 out (i + 1)) u ∧ sel (rd_T51 out (i + 1)) u ≤ 6400000) {r : List S51}
    (hr : Ev (fun k => m_least.l1 k l fr (out.set i.toNat (upd (rd_T51 out i) t (min (J l i t (i + 1) false + sel (rd_T51 out (i + 1)) false) (J l i t (i + 1) true + sel (rd_T51 out (i + 1)) true)))) i (wrap64 (c + 1)) false true false true) r) :
    Ev (fun k => m_least.l2 k l fr out i t 9223372036854775807 c 0 false true false true false true) r := by
  have n2 := h.n2
  have w := wr (x := i + 1) (by omega)
  have j0 := J_bd h h0 (by omega) (show 0 ≤ i + 1 by omega) h1 t false
  have j1 := J_bd h h0 (by omega) (show 0 ≤ i + 1 by omega) h1 t true
  have b0 := hb false
  have b1 := hb true
  have g0 : 0 ≤ i + 1 := by omega
  have g1 : i + 1 < (out.length : Int) := by omega
  have g2 : i < (out.length : Int) := by omega
  refine Ev.step (f := fun k => (m_between.f k l i t (i + 1) false).bind fun a => m_least.l2 k l fr out i t (mn 9223372036854775807 (wrap64 (a + (rd_T51 out (i + 1)).f0))) c 1 false true false true false true) (fun k => by
    simp only [m_least.l2, w, way0, Option.bind_some, if_pos g0, if_pos g1, if_pos i02, if_true, a01]) ?_
  refine Ev.bind (f := fun k a => m_least.l2 k l fr out i t (mn 9223372036854775807 (wrap64 (a + (rd_T51 out (i + 1)).f0))) c 1 false true false true false true) (btw_ev h h0 (by omega) g0 h1 t false) ?_
  refine Ev.step (f := fun k => (m_between.f k l i t (i + 1) true).bind fun a => m_least.l2 k l fr out i t (mn (mn 9223372036854775807 (wrap64 (J l i t (i + 1) false + (rd_T51 out (i + 1)).f0))) (wrap64 (a + (rd_T51 out (i + 1)).f1))) c 2 false true false true false true) (fun k => by
    simp only [m_least.l2, w, way1, Option.bind_some, if_pos g0, if_pos g1, if_pos i12, if_neg i10, if_true, a11]) ?_
  refine Ev.bind (f := fun k a => m_least.l2 k l fr out i t (mn (mn 9223372036854775807 (wrap64 (J l i t (i + 1) false + (rd_T51 out (i + 1)).f0))) (wrap64 (a + (rd_T51 out (i + 1)).f1))) c 2 false true false true false true) (btw_ev h h0 (by omega) g0 h1 t true) ?_
  have e : mn (mn 9223372036854775807 (wrap64 (J l i t (i + 1) false + (rd_T51 out (i + 1)).f0))) (wrap64 (J l i t (i + 1) true + (rd_T51 out (i + 1)).f1)) = min (J l i t (i + 1) false + sel (rd_T51 out (i + 1)) false) (J l i t (i + 1) true + sel (rd_T51 out (i + 1)) true) := by
    simp only [sel] at b0 b1 ⊢
    rw [wr (by simp at b0; omega), wr (by simp at b1; omega), mn_min, mn_min]
    simp at b0 b1 ⊢
    omega
  rw [e]
  refine Ev.step (f := fun k => m_least.l1 k l fr (out.set i.toNat (upd (rd_T51 out i) t (min (J l i t (i + 1) false + sel (rd_T51 out (i + 1)) false) (J l i t (i + 1) true + sel (rd_T51 out (i + 1)) true)))) i (wrap64 (c + 1)) false true false true) (fun k => by
    simp only [m_least.l2, if_neg i22]
    cases t
    · simp only [way0, Option.bind_some, if_pos h0, if_pos g2, if_true, upd]; rfl
    · simp only [way1, Option.bind_some, if_pos h0, if_pos g2, if_true, if_neg i10, upd]) hr
def Tab (l : List S62) (e : Int) (out : List S51) (i : Int) : Prop := ∀ j : Int, i ≤ j → j < e → ∀ t, sel (rd_T51 out j) t = Lm l (e - 1 - j).toNat j t
theorem least0 {l : List S62} (h : Ok l) {fr e : Int} (hf : 0 ≤ fr) (he : e ≤ l.length) : ∀ (m : Nat) (i : Int) (out : List S51), i = fr + m - 1 → i + 2 ≤ e → out.length = l.length → Tab l e out (i + 1) →
    ∃ r, Ev (fun k => m_least.l0 k l fr out i false true) r ∧ r.length = l.length ∧ Tab l e r fr
  | 0, i, out, hi, h2, hn, ht => by
    refine ⟨out, Ev.const1 fun k => ?_, hn, ?_⟩
    · simp only [m_least.l0]
      rw [if_neg (by omega)]
    · rw [show fr = i + 1 by omega]; exact ht
  | m + 1, i, out, hi, h2, hn, ht => by
    have n2 := h.n2
    have hv : ∀ u, sel (rd_T51 out (i + 1)) u = Lm l (e - 1 - (i + 1)).toNat (i + 1) u := ht (i + 1) (by omega) (by omega)
    have hb : ∀ u, 0 ≤ sel (rd_T51 out (i + 1)) u ∧ sel (rd_T51 out (i + 1)) u ≤ 6400000 := fun u => by
      have := Lm_bd h (e - 1 - (i + 1)).toNat (i + 1) u (by omega) (by omega)
      rw [hv]; omega
    let v0 := min (J l i false (i + 1) false + sel (rd_T51 out (i + 1)) false) (J l i false (i + 1) true + sel (rd_T51 out (i + 1)) true)
    let v1 := min (J l i true (i + 1) false + sel (rd_T51 out (i + 1)) false) (J l i true (i + 1) true + sel (rd_T51 out (i + 1)) true)
    let o1 := out.set i.toNat (upd (rd_T51 out i) false v0)
    have ho1 : rd_T51 o1 (i + 1) = rd_T51 out (i + 1) := by
      show rd_T51 (out.set i.toNat _) (i + 1) = _
      rw [rd51_set (by omega) (by omega) (by omega), if_neg (by omega)]
    let o2 := o1.set i.toNat (upd (rd_T51 o1 i) true v1)
    have hn1 : o1.length = l.length := by simp [o1, hn]
    have hn2 : o2.length = l.length := by simp [o2, hn1]
    have ht2 : Tab l e o2 i := by
      intro j hj1 hj2 t
      by_cases hji : j = i
      · subst hji
        have e1 : rd_T51 o2 j = upd (upd (rd_T51 out j) false v0) true v1 := by
          show rd_T51 (o1.set j.toNat _) j = _
          rw [rd51_set (by omega) (by omega) (by omega), if_pos rfl]
          show upd (rd_T51 (out.set j.toNat _) j) true v1 = _
          rw [rd51_set (by omega) (by omega) (by omega), if_pos rfl]
        obtain ⟨q, hq⟩ : ∃ q, (e - 1 - j).toNat = q + 1 := ⟨(e - 1 - (j + 1)).toNat, by omega⟩
        have hq' : (e - 1 - (j + 1)).toNat = q := by omega
        rw [e1, hq]
        rw [hq'] at hv
        cases t
        · simp [sel, upd, Lm, v0, ← hv]
        · simp [sel, upd, Lm, v1, ← hv]
      · have e1 : rd_T51 o2 j = rd_T51 out j := by
          show rd_T51 (o1.set i.toNat _) j = _
          rw [rd51_set (by omega) (by omega) (by omega), if_neg hji]
          show rd_T51 (out.set i.toNat _) j = _
          rw [rd51_set (by omega) (by omega) (by omega), if_neg hji]
        rw [e1]
        exact ht j (by omega) hj2 t
    obtain ⟨r, hr, hrn, hrt⟩ := least0 h hf he m (i - 1) o2 (by omega) (by omega) hn2 (by rw [show i - 1 + 1 = i by omega]; exact ht2)
    refine ⟨r, ?_, hrn, hrt⟩
    refine Ev.step (f := fun k => m_least.l1 k l fr out i 0 false true false true) (fun k => by
      simp only [m_least.l0]
      rw [if_pos (by omega)]) ?_
    refine Ev.step (f := fun k => m_least.j2 k l fr out i false 0 false true false true) (fun k => by simp only [m_least.l1, if_pos i02, if_true]) ?_
    refine Ev.step (f := fun k => m_least.l2 k l fr out i false 9223372036854775807 0 0 false true false true false true) (fun k => rfl) ?_
    refine least2 h fr hn (by omega) (by omega) false 0 hb ?_
    rw [w01]
    refine Ev.step (f := fun k => m_least.j2 k l fr o1 i true 1 false true false true) (fun k => by simp only [m_least.l1, if_pos i12, if_neg i10, if_true]; rfl) ?_
    refine Ev.step (f := fun k => m_least.l2 k l fr o1 i true 9223372036854775807 1 0 false true false true false true) (fun k => rfl) ?_
    refine least2 h fr hn1 (by omega) (by omega) true 1 (by rw [ho1]; exact hb) ?_
    rw [w11, ho1]
    refine Ev.step (f := fun k => m_least.l0 k l fr o2 (i - 1) false true) (fun k => by simp only [m_least.l1, if_neg i22]; rw [wr (by omega)]) hr
theorem least_ev {l : List S62} (h : Ok l) {fr e : Int} (hf : 0 ≤ fr) (he : e ≤ l.length) (hfe : fr < e) : ∃ r, Ev (fun k => m_least.f k l fr e) r ∧ r.length = l.length ∧ Tab l e r fr := by
  have n2 := h.n2
  have hz : Tab l e (List.replicate l.length z51) (e - 1) := by
    intro j h1 h2 t
    have : j = e - 1 := by omega
    subst this
    have hl : (e - 1).toNat < l.length := by omega
    have hr : rd_T51 (List.replicate l.length z51) (e - 1) = z51 := by
      simp only [rd_T51, List.getD_eq_getElem?_getD, List.getElem?_replicate]
      split <;> rfl
    rw [hr, show (e - 1 - (e - 1)).toNat = 0 by omega]
    cases t <;> rfl
  obtain ⟨r, hr, h3, h4⟩ := least0 h hf he (e - 1 - fr).toNat (e - 2) (List.replicate l.length z51) (by omega) (by omega) (by simp) (by rw [show e - 2 + 1 = e - 1 by omega]; exact hz)
  refine ⟨r, ?_, h3, h4⟩
  unfold m_least.f
  simp only [if_pos (show (0 : Int) ≤ (l.length : Int) by omega), Int.toNat_natCast, if_pos (show l.length ≤ 17592186044416 by omega)]
  rw [wr (by omega)]
  exact hr

theorem r39_app (p s : List S39) (e : S39) : rd_T39 (p ++ e :: s) (p.length : Int) = e := by simp [rd_T39, List.getD_eq_getElem?_getD]
theorem r39_last (p : List S39) (e : S39) : rd_T39 (p ++ [e]) (wrap64 (((p ++ [e]).length : Int) - 1)) = e ∨ ¬ (p.length ≤ 1000) := by
  by_cases h : p.length ≤ 1000
  · left; rw [wr (by simp; omega), len_snoc, show (p.length : Int) + 1 - 1 = p.length by omega]; exact r39_app p [] e
  · right; exact h

def nextU (l : List S62) (m : Nat) (i : Int) (t : Bool) : Bool := decide (J l i t (i + 1) true + Lm l m (i + 1) true < J l i t (i + 1) false + Lm l m (i + 1) false)
def rowF (l : List S62) : Nat → Int → Bool → List S39
  | 0, _, _ => []
  | m + 1, i, t => ⟨i + 1, nextU l m i t⟩ :: rowF l m (i + 1) (nextU l m i t)
def topT (l : List S62) (m : Nat) (i : Int) : Bool := decide (Lm l m i true < Lm l m i false)
def firstR (l : List S62) (m : Nat) (i : Int) : List S39 := ⟨i, topT l m i⟩ :: rowF l m i (topT l m i)
def bestV (l : List S62) (m : Nat) (i : Int) : Int := min (Lm l m i false) (Lm l m i true)
theorem nextU_min (l : List S62) (m : Nat) (i : Int) (t : Bool) : J l i t (i + 1) (nextU l m i t) + Lm l m (i + 1) (nextU l m i t) = Lm l (m + 1) i t := by
  unfold nextU
  simp only [Lm]
  by_cases h : J l i t (i + 1) true + Lm l m (i + 1) true < J l i t (i + 1) false + Lm l m (i + 1) false
  · rw [decide_eq_true h]; omega
  · rw [decide_eq_false h]; omega
theorem first2 {l : List S62} (h : Ok l) {e : Int} (he : e ≤ l.length) {tab : List S51} (hn : tab.length = l.length) {i : Int} (h0 : 0 ≤ i) (h1 : i + 1 < e) (ht : Tab l e tab i) (B : Int) (row : List S39) (hrl : row.length ≤ 1000) (t u : Bool) (c : Int) {r : List S39 × Int}
    (hr : if J l i t (i + 1) u + Lm l (e - 1 - (i + 1)).toNat (i + 1) u = Lm l (e - 1 - i).toNat i t then Ev (fun k => m_first.l0 k l e tab B (row ++ [⟨i + 1, u⟩]) (i + 1) false true) r else Ev (fun k => m_first.l1 k l e tab B row i (wrap64 (c + 1)) false true false true i t) r) :
    Ev (fun k => m_first.j2 k l e tab B row i u c false true false true i t) r := by
  have n2 := h.n2
  have w := wr (x := i + 1) (by omega)
  have j0 := J_bd h h0 (by omega) (show 0 ≤ i + 1 by omega) (by omega) t u
  have b0 := Lm_bd h (e - 1 - (i + 1)).toNat (i + 1) u (by omega) (by omega)
  have g0 : 0 ≤ i + 1 := by omega
  have g1 : i + 1 < (tab.length : Int) := by omega
  have g2 : i < (tab.length : Int) := by omega
  have hl : row.length < 8796093022208 := by omega
  have s1 := ht (i + 1) (by omega) (by omega) u
  have s2 := ht i (by omega) (by omega) t
  have w2 := wr (x := J l i t (i + 1) u + sel (rd_T51 tab (i + 1)) u) (by rw [s1]; omega)
  rw [← s1, ← s2] at hr
  refine Ev.step (f := fun k => (m_between.f k l i t (i + 1) u).bind fun a => if wrap64 (a + sel (rd_T51 tab (i + 1)) u) = sel (rd_T51 tab i) t then m_first.l0 k l e tab B (row ++ [⟨i + 1, u⟩]) (i + 1) false true else m_first.l1 k l e tab B row i (wrap64 (c + 1)) false true false true i t) (fun k => by
    simp only [m_first.j2, w]
    cases u <;> cases t <;> simp [way0, way1, g0, g1, g2, h0, hl, sel]) ?_
  refine Ev.bind (f := fun k a => if wrap64 (a + sel (rd_T51 tab (i + 1)) u) = sel (rd_T51 tab i) t then m_first.l0 k l e tab B (row ++ [⟨i + 1, u⟩]) (i + 1) false true else m_first.l1 k l e tab B row i (wrap64 (c + 1)) false true false true i t) (btw_ev h h0 (by omega) g0 (by omega) t u) ?_
  rw [w2]
  by_cases q : J l i t (i + 1) u + sel (rd_T51 tab (i + 1)) u = sel (rd_T51 tab i) t
  · simp only [if_pos q] at hr ⊢; exact hr
  · simp only [if_neg q] at hr ⊢; exact hr
theorem first0 {l : List S62} (h : Ok l) {e : Int} (he : e ≤ l.length) {tab : List S51} (hn : tab.length = l.length) (B : Int) : ∀ (m : Nat) (i : Int) (t : Bool) (acc : List S39), i = e - 1 - m → 0 ≤ i → Tab l e tab i → acc.length ≤ i →
    Ev (fun k => m_first.l0 k l e tab B (acc ++ [⟨i, t⟩]) i false true) (acc ++ ⟨i, t⟩ :: rowF l m i t, B)
  | 0, i, t, acc, hi, h0, ht, ha => by
    have n2 := h.n2
    refine Ev.const1 fun k => ?_
    simp only [m_first.l0]
    rw [if_neg (by rw [wr (by omega)]; omega)]
    rfl
  | m + 1, i, t, acc, hi, h0, ht, ha => by
    have n2 := h.n2
    have hl : (acc ++ [(⟨i, t⟩ : S39)]).length = acc.length + 1 := by simp
    have hlast : rd_T39 (acc ++ [(⟨i, t⟩ : S39)]) (wrap64 (((acc ++ [(⟨i, t⟩ : S39)]).length : Int) - 1)) = ⟨i, t⟩ := (r39_last acc ⟨i, t⟩).resolve_right (by simp; omega)
    have wl := wr (x := ((acc ++ [(⟨i, t⟩ : S39)]).length : Int) - 1) (by rw [hl]; omega)
    have em : (e - 1 - (i + 1)).toNat = m := by omega
    have em' : (e - 1 - i).toNat = m + 1 := by omega
    have ih : ∀ u, u = nextU l m i t → Ev (fun k => m_first.l0 k l e tab B (acc ++ [⟨i, t⟩] ++ [⟨i + 1, u⟩]) (i + 1) false true) (acc ++ ⟨i, t⟩ :: rowF l (m + 1) i t, B) := fun u hu => by
      have := first0 h he hn B m (i + 1) u (acc ++ [⟨i, t⟩]) (by omega) (by omega) (fun j h1 h2 => ht j (by omega) h2) (by rw [hl]; omega)
      refine Ev.eq this ?_
      rw [← app_snoc]
      subst hu
      rfl
    refine Ev.step (f := fun k => m_first.l1 k l e tab B (acc ++ [⟨i, t⟩]) i 0 false true false true i t) (fun k => by
      simp only [m_first.l0]
      rw [if_pos (by rw [wr (by omega)]; omega), if_pos (by rw [wl, hl]; omega), if_pos (by rw [wl]; omega), hlast]) ?_
    refine Ev.step (f := fun k => m_first.j2 k l e tab B (acc ++ [⟨i, t⟩]) i false 0 false true false true i t) (fun k => by simp only [m_first.l1, if_pos i02, if_true]) ?_
    refine first2 h he hn h0 (by omega) ht B _ (by rw [hl]; omega) t false 0 ?_
    rw [em, em']
    by_cases q : J l i t (i + 1) false + Lm l m (i + 1) false = Lm l (m + 1) i t
    · rw [if_pos q]
      refine ih false ?_
      have := nextU_min l m i t
      unfold nextU
      symm
      refine decide_eq_false ?_
      simp only [Lm] at q
      omega
    · rw [if_neg q, w01]
      refine Ev.step (f := fun k => m_first.j2 k l e tab B (acc ++ [⟨i, t⟩]) i true 1 false true false true i t) (fun k => by simp only [m_first.l1, if_pos i12, if_neg i10, if_true]) ?_
      refine first2 h he hn h0 (by omega) ht B _ (by rw [hl]; omega) t true 1 ?_
      rw [em, em']
      have hq : J l i t (i + 1) true + Lm l m (i + 1) true = Lm l (m + 1) i t := by
        simp only [Lm] at q ⊢; omega
      rw [if_pos hq]
      refine ih true ?_
      unfold nextU
      symm
      refine decide_eq_true ?_
      simp only [Lm] at q hq
      omega
theorem first_ev {l : List S62} (h : Ok l) {fr e : Int} (hf : 0 ≤ fr) (he : e ≤ l.length) (hfe : fr < e) : Ev (fun k => m_first.f k l fr e) (firstR l (e - 1 - fr).toNat fr, bestV l (e - 1 - fr).toNat fr) := by
  obtain ⟨tab, h1, h2, h3⟩ := least_ev h hf he hfe
  unfold m_first.f
  refine Ev.bind (f := fun k t250 => (if 0 ≤ fr then (if fr < (t250.length : Int) then (m_first.l0 k l e t250 (mn ((rd_T51 t250 fr).f0) ((rd_T51 t250 fr).f1)) (([(⟨fr, (((rd_T51 t250 fr).f0) != (mn ((rd_T51 t250 fr).f0) ((rd_T51 t250 fr).f1)))⟩ : S39)] : List (S39))) fr false true) else (none)) else (none))) h1 ?_
  simp only [if_pos hf, if_pos (show fr < (tab.length : Int) by omega)]
  have s0 := h3 fr (by omega) hfe false
  have s1 := h3 fr (by omega) hfe true
  simp only [sel] at s0 s1
  have q0 : (rd_T51 tab fr).f0 = Lm l (e - 1 - fr).toNat fr false := s0
  have q1 : (rd_T51 tab fr).f1 = Lm l (e - 1 - fr).toNat fr true := s1
  rw [q0, q1, mn_min]
  have e1 : (Lm l (e - 1 - fr).toNat fr false != min (Lm l (e - 1 - fr).toNat fr false) (Lm l (e - 1 - fr).toNat fr true)) = topT l (e - 1 - fr).toNat fr := by
    unfold topT
    by_cases q : Lm l (e - 1 - fr).toNat fr true < Lm l (e - 1 - fr).toNat fr false
    · rw [decide_eq_true q]; simp; omega
    · rw [decide_eq_false q]; simp; omega
  rw [e1]
  exact first0 h he h2 _ (e - 1 - fr).toNat fr _ [] (by omega) hf h3 (by simp; omega)

def costR (l : List S62) : List S39 → Int
  | a :: b :: r => J l a.f0 a.f1 b.f0 b.f1 + costR l (b :: r)
  | _ => 0
def In (l : List S62) (row : List S39) : Prop := ∀ x ∈ row, 0 ≤ x.f0 ∧ x.f0 < l.length
theorem cost0 {l : List S62} (h : Ok l) (row : List S39) (hi : In l row) (hl : row.length ≤ 1000) : ∀ (s p : List S39) (a : S39) (acc : Int), row = p ++ a :: s → 0 ≤ acc → acc ≤ 64000 * p.length → Ev (fun k => m_cost.l0 k l row acc ((p.length : Int) + 1)) (acc + costR l (a :: s))
  | [], p, a, acc, hp, h0, h1 => Ev.const1 fun k => by
    simp only [m_cost.l0]
    rw [if_neg (by rw [hp]; simp)]; simp [costR]
  | b :: s, p, a, acc, hp, h0, h1 => by
    have hla : row.length = p.length + (s.length + 1) + 1 := by rw [hp]; simp; omega
    have ha := hi a (by rw [hp]; simp)
    have hb := hi b (by rw [hp]; simp)
    have hj := J_bd h ha.1 ha.2 hb.1 hb.2 a.f1 b.f1
    have ra : rd_T39 row (p.length : Int) = a := by rw [hp]; exact r39_app p (b :: s) a
    have rb : rd_T39 row ((p.length : Int) + 1) = b := by rw [hp, app_snoc, ← len_snoc p a]; exact r39_app (p ++ [a]) s b
    have ih := cost0 h row hi hl s (p ++ [a]) b (acc + J l a.f0 a.f1 b.f0 b.f1) (by rw [hp, app_snoc]) (by omega) (by rw [List.length_append]; simp; omega)
    refine Ev.step (f := fun k => (m_between.f k l a.f0 a.f1 b.f0 b.f1).bind fun t => m_cost.l0 k l row (wrap64 (acc + t)) ((p ++ [a]).length + 1)) (fun k => by
      simp only [m_cost.l0]
      rw [if_pos (by omega), wr (x := (p.length : Int) + 1 - 1) (by omega), show (p.length : Int) + 1 - 1 = p.length by omega, if_pos (by omega), if_pos (by omega), if_pos (by omega), ra, rb, wr (x := (p.length : Int) + 1 + 1) (by omega), len_snoc]) ?_
    refine Ev.bind (f := fun k t => m_cost.l0 k l row (wrap64 (acc + t)) ((p ++ [a]).length + 1)) (btw_ev h ha.1 ha.2 hb.1 hb.2 a.f1 b.f1) ?_
    rw [wr (x := acc + _) (by omega)]
    refine Ev.eq ih ?_
    simp only [costR]; omega
theorem cost_ev {l : List S62} (h : Ok l) (row : List S39) (hi : In l row) (hl : row.length ≤ 1000) : Ev (fun k => m_cost.f k l row) (costR l row) := by
  unfold m_cost.f
  cases row with
  | nil => exact Ev.const1 fun k => by simp only [m_cost.l0]; rw [if_neg (by simp)]; rfl
  | cons a s => exact Ev.eq (cost0 h _ hi hl s [] a 0 rfl (by omega) (by simp)) (by simp)
theorem few0 (l : List S62) (hl : l.length ≤ 70) : ∀ (m : Nat) (i : Int), 0 ≤ i → i + m = l.length → ∃ b, Ev (fun k => rf_Few.l0 k l i) b
  | 0, i, h0, h1 => ⟨true, Ev.const1 fun k => by
    simp only [rf_Few.l0]
    rw [if_neg (by omega)]⟩
  | m + 1, i, h0, h1 => by
    obtain ⟨b, ih⟩ := few0 l hl m (i + 1) (by omega) (by omega)
    have hs : ∀ k, rf_Few.l0 (k + 1) l i = if (((rd_T62 l i).f5).length : Int) > 70 then some false else if (((rd_T62 l i).f6).length : Int) > 70 then some false else rf_Few.l0 k l (i + 1) := fun k => by
      simp only [rf_Few.l0]
      rw [if_pos (by omega), if_pos h0, wr (by omega)]
    by_cases q1 : (((rd_T62 l i).f5).length : Int) > 70
    · exact ⟨false, Ev.const1 fun k => by rw [hs, if_pos q1]⟩
    · by_cases q2 : (((rd_T62 l i).f6).length : Int) > 70
      · exact ⟨false, Ev.const1 fun k => by rw [hs, if_neg q1, if_pos q2]⟩
      · exact ⟨b, Ev.step (fun k => by rw [hs, if_neg q1, if_neg q2]) ih⟩
theorem few_ev (l : List S62) (n : Int) (hn : n ≤ 70) : ∃ b, Ev (fun k => rf_Few.f k l n) b ∧ (b = true → (l.length : Int) ≤ n ∨ 64 < (l.length : Int)) ∧ (b = true → l.length ≤ 70) := by
  unfold rf_Few.f
  by_cases h1 : (l.length : Int) > n
  · by_cases h2 : (l.length : Int) ≤ 64
    · exact ⟨false, Ev.const1 fun k => by rw [if_pos h1, if_pos h2]; rfl, by simp, by simp⟩
    · by_cases h3 : (l.length : Int) > 70
      · exact ⟨false, Ev.const1 fun k => by rw [if_pos h1, if_neg h2, decide_eq_true h3]; rfl, by simp, by simp⟩
      · obtain ⟨b, hb⟩ := few0 l (by omega) l.length 0 (by omega) (by omega)
        exact ⟨b, Ev.step (fun k => by rw [if_pos h1, if_neg h2, decide_eq_false h3]; rfl) hb, fun _ => by omega, fun _ => by omega⟩
  · by_cases h3 : (l.length : Int) > 70
    · omega
    · obtain ⟨b, hb⟩ := few0 l (by omega) l.length 0 (by omega) (by omega)
      exact ⟨b, Ev.step (fun k => by rw [if_neg h1, decide_eq_false h3]; rfl) hb, fun _ => by omega, fun _ => by omega⟩

theorem awake300 : lw_awake.f 300 = some true := by decide +kernel
theorem awake_ev : Ev (fun k => lw_awake.f k) true := Ev.of (fun k => lw_awake.mono k) awake300
theorem awk {α : Type} {g : Nat → Bool → Option α} {r : α} (h : Ev (fun k => g k true) r) : Ev (fun k => (lw_awake.f k).bind fun t => g k t) r := Ev.bind (f := fun k t => g k t) awake_ev h
theorem awk1 : Ev (fun k => (lw_awake.f k).bind fun t => (some t : Option Bool)) true := awk (g := fun k t => some t) (Ev.now true)
def pick (l : List S62) (q : Nat) : Nat → Int → Int → Int
  | 0, _, b => b
  | m + 1, i, b => pick l q m (i + 1) (if bestV l q i < bestV l q b then i else b)
theorem best0 {l : List S62} (h : Ok l) {n : Int} (hn : 1 ≤ n) (hnl : n ≤ l.length) : ∀ (m : Nat) (i b : Int), i = l.length - n + 1 - m → 1 ≤ i →
    Ev (fun k => m_Best.l0 k l n (firstR l (n.toNat - 1) b) (bestV l (n.toNat - 1) b) i) (firstR l (n.toNat - 1) (pick l (n.toNat - 1) m i b), bestV l (n.toNat - 1) (pick l (n.toNat - 1) m i b), 0)
  | 0, i, b, hi, h1 => Ev.const1 fun k => by
    have n2 := h.n2
    simp only [m_Best.l0]
    rw [if_neg (by rw [wr (by omega)]; omega)]
    rfl
  | m + 1, i, b, hi, h1 => by
    have n2 := h.n2
    have w := wr (x := i + n) (by omega)
    have w1 := wr (x := i + 1) (by omega)
    have e : (i + n - 1 - i).toNat = n.toNat - 1 := by omega
    refine Ev.step (f := fun k => (m_first.f k l i (i + n)).bind fun bt560 => (if bt560.2 < bestV l (n.toNat - 1) b then (m_Best.l0 k l n bt560.1 bt560.2 (i + 1)) else (m_Best.l0 k l n (firstR l (n.toNat - 1) b) (bestV l (n.toNat - 1) b) (i + 1)))) (fun k => by
      simp only [m_Best.l0]
      rw [w, w1, if_pos (by omega)]) ?_
    refine Ev.bind (f := fun k bt560 => (if bt560.2 < bestV l (n.toNat - 1) b then (m_Best.l0 k l n bt560.1 bt560.2 (i + 1)) else (m_Best.l0 k l n (firstR l (n.toNat - 1) b) (bestV l (n.toNat - 1) b) (i + 1)))) (first_ev (fr := i) (e := i + n) h (by omega) (by omega) (by omega)) ?_
    rw [e]
    simp only [pick]
    by_cases q : bestV l (n.toNat - 1) i < bestV l (n.toNat - 1) b
    · simp only [if_pos q]
      exact best0 h hn hnl m (i + 1) i (by omega) (by omega)
    · simp only [if_neg q]
      exact best0 h hn hnl m (i + 1) b (by omega) (by omega)
def bestB (l : List S62) (n : Int) : Int := pick l (n.toNat - 1) (l.length - n).toNat 1 0
theorem best_ev (l : List S62) (n : Int) : Ev (fun k => m_Best.f k l n) (if ck l = 0 then (if n < 1 ∨ n > l.length then ([], 0, 1) else (firstR l (n.toNat - 1) (bestB l n), bestV l (n.toNat - 1) (bestB l n), 0)) else ([], 0, ck l)) := by
  unfold m_Best.f
  refine Ev.bind (f := fun k t555 => (if t555 = 0 then (if n < 1 then (m_Best.j0 k l n true) else (m_Best.j0 k l n (decide (n > (l.length : Int))))) else (some (([] : List (S39)), 0, t555)))) (ck_ev l) ?_
  by_cases h : ck l = 0
  · have hk := ok_of h
    simp only [if_pos h]
    by_cases h1 : n < 1
    · simp only [if_pos h1, if_pos (show n < 1 ∨ n > l.length from .inl h1)]
      exact Ev.const1 fun k => by simp [m_Best.j0]
    · simp only [if_neg h1]
      by_cases h2 : n > l.length
      · simp only [decide_eq_true h2, if_pos (show n < 1 ∨ n > l.length from .inr h2)]
        exact Ev.const1 fun k => by simp [m_Best.j0]
      · simp only [decide_eq_false h2, if_neg (show ¬ (n < 1 ∨ n > l.length) by omega)]
        refine Ev.step (f := fun k => (m_first.f k l 0 n).bind fun bt556 => (m_Best.l0 k l n bt556.1 bt556.2 1)) (fun k => by simp [m_Best.j0]) ?_
        refine Ev.bind (f := fun k bt556 => (m_Best.l0 k l n bt556.1 bt556.2 1)) (first_ev (fr := 0) (e := n) hk (Int.le_refl 0) (by omega) (by omega)) ?_
        rw [show (n - 1 - 0).toNat = n.toNat - 1 by omega]
        exact best0 hk (by omega) (by omega) (l.length - n).toNat 1 0 (by omega) (by omega)
  · simp only [if_neg h]
    exact Ev.const fun k => rfl
def rch (l : List S62) (L : Int) : Nat → Int → Bool → Bool
  | 0, _, _ => true
  | m + 1, i, t => (decide (J l i t (i + 1) false ≤ L) && rch l L m (i + 1) false) || (decide (J l i t (i + 1) true ≤ L) && rch l L m (i + 1) true)
def anyR (l : List S62) (L : Int) (m : Nat) (i : Int) : Bool := rch l L m i false || rch l L m i true
theorem rch_pre (l : List S62) (L : Int) : ∀ (m : Nat) (i : Int) (t : Bool), rch l L (m + 1) i t = true → rch l L m i t = true
  | 0, _, _, _ => rfl
  | m + 1, i, t, h => by
    have a := rch_pre l L m (i + 1) false
    have b := rch_pre l L m (i + 1) true
    rw [rch] at h ⊢
    simp only [Bool.or_eq_true, Bool.and_eq_true] at h ⊢
    rcases h with ⟨h1, h2⟩ | ⟨h1, h2⟩
    · exact .inl ⟨h1, a h2⟩
    · exact .inr ⟨h1, b h2⟩
theorem any_pre (l : List S62) (L : Int) (m : Nat) (i : Int) (h : anyR l L (m + 1) i = true) : anyR l L m i = true := by
  unfold anyR at h ⊢
  simp only [Bool.or_eq_true] at h ⊢
  exact h.imp (rch_pre l L m i false) (rch_pre l L m i true)
theorem any_pre' (l : List S62) (L : Int) (i : Int) : ∀ (d m : Nat), anyR l L (m + d) i = true → anyR l L m i = true
  | 0, _, h => h
  | d + 1, m, h => any_pre' l L i d m (any_pre l L (m + d) i h)
def ext (l : List S62) (L : Int) (b : Int) : Nat → Nat → Nat
  | 0, d => d
  | f + 1, d => if anyR l L (d + 1) b = true then ext l L b f (d + 1) else d
theorem ext_ge (l : List S62) (L b : Int) : ∀ (f d e : Nat), d ≤ e → e ≤ d + f → anyR l L e b = true → e ≤ ext l L b f d
  | 0, d, e, h1, h2, _ => by simp only [ext]; omega
  | f + 1, d, e, h1, h2, h => by
    simp only [ext]
    by_cases q : e = d
    · split
      · exact Nat.le_trans (by omega) (ext_ge l L b f (d + 1) (d + 1) (Nat.le_refl _) (by omega) ‹_›)
      · omega
    · obtain ⟨c, rfl⟩ : ∃ c, e = d + 1 + c := ⟨e - (d + 1), by omega⟩
      rw [if_pos (any_pre' l L b c (d + 1) h)]
      exact ext_ge l L b f (d + 1) _ (by omega) (by omega) h
theorem ext_le (l : List S62) (L b : Int) : ∀ (f d : Nat), d ≤ ext l L b f d ∧ ext l L b f d ≤ d + f
  | 0, d => by simp [ext]
  | f + 1, d => by
    simp only [ext]
    split
    · have := ext_le l L b f (d + 1); omega
    · omega
theorem ext_any (l : List S62) (L b : Int) : ∀ (f d : Nat), anyR l L d b = true → anyR l L (ext l L b f d) b = true
  | 0, d, h => h
  | f + 1, d, h => by
    simp only [ext]
    split
    · exact ext_any l L b f (d + 1) ‹_›
    · exact h
def len1 (l : List S62) (L b : Int) : Nat := ext l L b (l.length - 1 - b).toNat 0
def rowS (l : List S62) (L : Int) : Nat → Int → Bool → List S39
  | 0, _, _ => []
  | m + 1, i, t => ⟨i + 1, !(decide (J l i t (i + 1) false ≤ L) && rch l L m (i + 1) false)⟩ :: rowS l L m (i + 1) (!(decide (J l i t (i + 1) false ≤ L) && rch l L m (i + 1) false))
def segR (l : List S62) (L : Int) (m : Nat) (b : Int) : List S39 := ⟨b, !(rch l L m b false)⟩ :: rowS l L m b (!(rch l L m b false))
def runsR (l : List S62) (L : Int) : Nat → Int → List (List S39)
  | 0, _ => []
  | f + 1, b => if b < l.length then segR l L (len1 l L b) b :: runsR l L f (b + len1 l L b + 1) else []
theorem rowS_len (l : List S62) (L : Int) : ∀ (m : Nat) (i : Int) (t : Bool), (rowS l L m i t).length = m
  | 0, _, _ => rfl
  | m + 1, i, t => by simp [rowS, rowS_len l L m]
theorem segR_len (l : List S62) (L : Int) (m : Nat) (b : Int) : (segR l L m b).length = m + 1 := by simp [segR, rowS_len]
def s73 (p : S73) (t : Bool) : Bool := if t = true then p.f1 else p.f0
def o73 (p : S73) (t c : Bool) : S73 := if t = true then ⟨p.f0, p.f1 || c⟩ else ⟨p.f0 || c, p.f1⟩
theorem rd73_set {xs : List S73} {i j : Int} {v : S73} (h0 : 0 ≤ i) (h1 : i < xs.length) (hj0 : 0 ≤ j) : rd_T73 (xs.set i.toNat v) j = if j = i then v else rd_T73 xs j := by
  by_cases h : j = i
  · subst h
    have hl : j.toNat < xs.length := by omega
    simp [rd_T73, List.getD_eq_getElem?_getD, List.getElem?_set, hl]
  · have : ¬ i.toNat = j.toNat := by omega
    simp [rd_T73, List.getD_eq_getElem?_getD, List.getElem?_set, h, this]
theorem set73_self {xs : List S73} {i : Int} (h0 : 0 ≤ i) (h1 : i < xs.length) : xs.set i.toNat (rd_T73 xs i) = xs := by
  have hl : i.toNat < xs.length := by omega
  simp [rd_T73, List.getD_eq_getElem?_getD, List.getElem?_eq_getElem hl]
theorem o73_false (p : S73) (t : Bool) : o73 p t false = p := by cases t <;> simp [o73]
theorem o73_true (p : S73) (t : Bool) : o73 p t true = if t = true then ⟨p.f0, true⟩ else ⟨true, p.f1⟩ := by cases t <;> simp [o73]

theorem lay5 {l : List S62} (b n L : Int) {can : List S73} {i : Int} (h0 : 0 ≤ i) (g2 : i < (can.length : Int)) (t : Bool) (c d : Int) (q : Bool) {r : List S39}
    (hr : Ev (fun k => m_lay.l2 k l b n L (can.set i.toNat (o73 (rd_T73 can i) t q)) i t c (wrap64 (d + 1)) false true false true false true) r) :
    Ev (fun k => m_lay.j5 k l b n L can i t c d q false true false true false true) r := by
  have hs := set73_self h0 g2
  cases q
  · rw [o73_false, hs] at hr
    refine Ev.step (fun k => ?_) hr
    simp only [m_lay.j5, Bool.false_eq_true, if_false]
  · refine Ev.step (fun k => ?_) hr
    simp only [m_lay.j5, if_true]
    cases t <;> simp [way0, way1, g2, h0, o73_true]
theorem lay4 {l : List S62} (h : Ok l) (b n L : Int) (hb : 0 ≤ b) (hn : b + n ≤ l.length) {can : List S73} (hc : can.length = n) {i : Int} (h0 : 0 ≤ i) (h1 : i + 1 < n) (t u : Bool) (c d : Int) {r : List S39}
    (hr : Ev (fun k => m_lay.l2 k l b n L (can.set i.toNat (o73 (rd_T73 can i) t (s73 (rd_T73 can (i + 1)) u && decide (J l (b + i) t (b + i + 1) u ≤ L)))) i t c (wrap64 (d + 1)) false true false true false true) r) :
    Ev (fun k => m_lay.j4 k l b n L can i t u c d false true false true false true) r := by
  have n2 := h.n2
  have w := wr (x := i + 1) (by omega)
  have w2 := wr (x := b + i) (by omega)
  have w3 := wr (x := b + i + 1) (by omega)
  have g0 : 0 ≤ i + 1 := by omega
  have g1 : i + 1 < (can.length : Int) := by omega
  have g2 : i < (can.length : Int) := by omega
  by_cases q : s73 (rd_T73 can (i + 1)) u = true
  · refine Ev.step (f := fun k => (m_between.f k l (b + i) t (b + i + 1) u).bind fun a => m_lay.j5 k l b n L can i t c d (decide (a ≤ L)) false true false true false true) (fun k => by
      simp only [m_lay.j4, w, w2, w3]
      cases u <;> simp only [s73] at q <;> simp only [way0, way1, Option.bind_some, if_pos g0, if_pos g1, if_neg i10, if_true] <;> simp at q <;> simp [q]) ?_
    refine Ev.bind (f := fun k a => m_lay.j5 k l b n L can i t c d (decide (a ≤ L)) false true false true false true) (btw_ev (a := b + i) (b := b + i + 1) h (by omega) (by omega) (by omega) (by omega) t u) ?_
    rw [q, Bool.true_and] at hr
    exact lay5 b n L h0 g2 t c d _ hr
  · rw [Bool.eq_false_iff.2 q, Bool.false_and] at hr
    refine Ev.step (fun k => ?_) (lay5 b n L h0 g2 t c d false hr)
    simp only [m_lay.j4, w, w2, w3]
    have q' := Bool.eq_false_iff.2 q
    cases u <;> simp only [s73] at q' <;> simp only [way0, way1, Option.bind_some, if_pos g0, if_pos g1, if_neg i10, if_true] <;> simp at q' <;> simp [q']
def Can (l : List S62) (L b : Int) (m : Nat) (can : List S73) (i : Int) : Prop := ∀ j : Int, i ≤ j → j ≤ m → ∀ t, s73 (rd_T73 can j) t = rch l L (m - j).toNat (b + j) t
theorem lay0 {l : List S62} (h : Ok l) (b L : Int) (m : Nat) (hb : 0 ≤ b) (hn : b + m < l.length) {r : List S39} : ∀ (f : Nat) (i : Int) (can : List S73), i = (f : Int) - 1 → i < m → can.length = m + 1 → Can l L b m can (i + 1) → (∀ j : Int, 0 ≤ j → j ≤ i → rd_T73 can j = z73) →
    (∀ can' : List S73, can'.length = m + 1 → Can l L b m can' 0 → Ev (fun k => m_lay.l3 k l b L can' [] ((m : Int) + 1) 0 false true) r) → Ev (fun k => m_lay.l0 k l b ((m : Int) + 1) L can i false true) r
  | 0, i, can, hi, him, hl, hC, hz, hr => by
    refine Ev.step (fun k => ?_) (hr can hl (by rw [show (0 : Int) = i + 1 by omega]; exact hC))
    simp only [m_lay.l0]
    rw [if_neg (by omega)]
  | f + 1, i, can, hi, him, hl, hC, hz, hr => by
    have n2 := h.n2
    have hi0 : 0 ≤ i := by omega
    have zi := hz i hi0 (Int.le_refl _)
    have hcl : (can.length : Int) = (m : Int) + 1 := by omega
    let A := fun t u => (rch l L (m - (i + 1)).toNat (b + (i + 1)) u && decide (J l (b + i) t (b + i + 1) u ≤ L))
    let c1 := can.set i.toNat (o73 (rd_T73 can i) false (A false false))
    let c2 := c1.set i.toNat (o73 (rd_T73 c1 i) false (A false true))
    let c3 := c2.set i.toNat (o73 (rd_T73 c2 i) true (A true false))
    let c4 := c3.set i.toNat (o73 (rd_T73 c3 i) true (A true true))
    have l1 : c1.length = m + 1 := by simp [c1, hl]
    have l2 : c2.length = m + 1 := by simp [c2, l1]
    have l3 : c3.length = m + 1 := by simp [c3, l2]
    have l4 : c4.length = m + 1 := by simp [c4, l3]
    have r1 : ∀ j, 0 ≤ j → rd_T73 c1 j = if j = i then o73 (rd_T73 can i) false (A false false) else rd_T73 can j := fun j hj => rd73_set hi0 (by omega) hj
    have r2 : ∀ j, 0 ≤ j → rd_T73 c2 j = if j = i then o73 (rd_T73 c1 i) false (A false true) else rd_T73 c1 j := fun j hj => rd73_set hi0 (by omega) hj
    have r3 : ∀ j, 0 ≤ j → rd_T73 c3 j = if j = i then o73 (rd_T73 c2 i) true (A true false) else rd_T73 c2 j := fun j hj => rd73_set hi0 (by omega) hj
    have r4 : ∀ j, 0 ≤ j → rd_T73 c4 j = if j = i then o73 (rd_T73 c3 i) true (A true true) else rd_T73 c3 j := fun j hj => rd73_set hi0 (by omega) hj
    have hne : ¬ (i + 1 = i) := by omega
    have n0 : ∀ u, s73 (rd_T73 can (i + 1)) u = rch l L (m - (i + 1)).toNat (b + (i + 1)) u := hC (i + 1) (Int.le_refl _) (by omega)
    have n1 : rd_T73 c1 (i + 1) = rd_T73 can (i + 1) := by rw [r1 _ (by omega), if_neg hne]
    have n2' : rd_T73 c2 (i + 1) = rd_T73 can (i + 1) := by rw [r2 _ (by omega), if_neg hne, n1]
    have n3 : rd_T73 c3 (i + 1) = rd_T73 can (i + 1) := by rw [r3 _ (by omega), if_neg hne, n2']
    have eA : ∀ t u, (s73 (rd_T73 can (i + 1)) u && decide (J l (b + i) t (b + i + 1) u ≤ L)) = A t u := fun t u => by rw [n0]
    have hC4 : Can l L b m c4 i := by
      intro j hj1 hj2 t
      by_cases hji : j = i
      · subst hji
        rw [r4 j hi0, if_pos rfl, r3 j hi0, if_pos rfl, r2 j hi0, if_pos rfl, r1 j hi0, if_pos rfl, zi]
        obtain ⟨q, hq⟩ : ∃ q, ((m : Int) - j).toNat = q + 1 := ⟨((m : Int) - (j + 1)).toNat, by omega⟩
        have hq' : ((m : Int) - (j + 1)).toNat = q := by omega
        rw [hq, rch]
        simp only [A, hq', show b + (j + 1) = b + j + 1 by omega]
        cases t <;> simp [s73, o73, z73, Bool.and_comm]
      · rw [r4 j (by omega), if_neg hji, r3 j (by omega), if_neg hji, r2 j (by omega), if_neg hji, r1 j (by omega), if_neg hji]
        exact hC j (by omega) hj2 t
    have ih := lay0 h b L m hb hn f (i - 1) c4 (by omega) (by omega) l4 (by rw [show i - 1 + 1 = i by omega]; exact hC4) (fun j hj0 hj1 => by
      have hji : ¬ j = i := by omega
      rw [r4 j hj0, if_neg hji, r3 j hj0, if_neg hji, r2 j hj0, if_neg hji, r1 j hj0, if_neg hji]
      exact hz j hj0 (by omega)) hr
    refine Ev.step (f := fun k => m_lay.l1 k l b ((m : Int) + 1) L can i 0 false true false true) (fun k => by simp only [m_lay.l0]; rw [if_pos (by omega)]) ?_
    refine Ev.step (f := fun k => m_lay.j2 k l b ((m : Int) + 1) L can i false 0 false true false true) (fun k => by simp only [m_lay.l1, if_pos i02, if_true]) ?_
    refine Ev.step (f := fun k => m_lay.l2 k l b ((m : Int) + 1) L can i false 0 0 false true false true false true) (fun k => rfl) ?_
    refine Ev.step (f := fun k => m_lay.j4 k l b ((m : Int) + 1) L can i false false 0 0 false true false true false true) (fun k => by simp only [m_lay.l2, if_pos i02, if_true]) ?_
    refine lay4 h b _ L hb (by omega) hcl hi0 (by omega) false false 0 0 ?_
    rw [eA, w01]
    refine Ev.step (f := fun k => m_lay.j4 k l b ((m : Int) + 1) L c1 i false true 0 1 false true false true false true) (fun k => by simp only [m_lay.l2, if_pos i12, if_neg i10, if_true]; rfl) ?_
    refine lay4 h b _ L hb (by omega) (by omega) hi0 (by omega) false true 0 1 ?_
    rw [n1, eA, w11]
    refine Ev.step (f := fun k => m_lay.l1 k l b ((m : Int) + 1) L c2 i 1 false true false true) (fun k => by simp only [m_lay.l2, if_neg i22, w01]; rfl) ?_
    refine Ev.step (f := fun k => m_lay.j2 k l b ((m : Int) + 1) L c2 i true 1 false true false true) (fun k => by simp only [m_lay.l1, if_pos i12, if_neg i10, if_true]) ?_
    refine Ev.step (f := fun k => m_lay.l2 k l b ((m : Int) + 1) L c2 i true 1 0 false true false true false true) (fun k => rfl) ?_
    refine Ev.step (f := fun k => m_lay.j4 k l b ((m : Int) + 1) L c2 i true false 1 0 false true false true false true) (fun k => by simp only [m_lay.l2, if_pos i02, if_true]) ?_
    refine lay4 h b _ L hb (by omega) (by omega) hi0 (by omega) true false 1 0 ?_
    rw [n2', eA, w01]
    refine Ev.step (f := fun k => m_lay.j4 k l b ((m : Int) + 1) L c3 i true true 1 1 false true false true false true) (fun k => by simp only [m_lay.l2, if_pos i12, if_neg i10, if_true]; rfl) ?_
    refine lay4 h b _ L hb (by omega) (by omega) hi0 (by omega) true true 1 1 ?_
    rw [n3, eA, w11]
    refine Ev.step (f := fun k => m_lay.l1 k l b ((m : Int) + 1) L c4 i 2 false true false true) (fun k => by simp only [m_lay.l2, if_neg i22, w11]; rfl) ?_
    refine Ev.step (fun k => ?_) ih
    simp only [m_lay.l1, if_neg i22]
    rw [wr (by omega)]

theorem lay7 {l : List S62} (h : Ok l) (b L : Int) (m : Nat) (hb : 0 ≤ b) (hn : b + m < l.length) {can : List S73} (hl : can.length = m + 1) (hC : Can l L b m can 0) {i : Int} (h1 : 1 ≤ i) (h2 : i ≤ m) (acc : List S39) (t : Bool) (ha : ((acc ++ [(⟨b + i - 1, t⟩ : S39)]).length : Int) = i) (u : Bool) (c : Int) {r : List S39}
    (hr : if (decide (J l (b + i - 1) t (b + i) u ≤ L) && rch l L (m - i).toNat (b + i) u) = true then Ev (fun k => m_lay.l3 k l b L can (acc ++ [(⟨b + i - 1, t⟩ : S39)] ++ [⟨b + i, u⟩]) ((m : Int) + 1) (i + 1) false true) r else Ev (fun k => m_lay.l4 k l b L can (acc ++ [(⟨b + i - 1, t⟩ : S39)]) i ((m : Int) + 1) i (wrap64 (c + 1)) false true false true) r) :
    Ev (fun k => m_lay.j8 k l b L can (acc ++ [(⟨b + i - 1, t⟩ : S39)]) i u ((m : Int) + 1) i c false true false true) r := by
  have n2 := h.n2
  have w := wr (x := i + 1) (by omega)
  have w1 := wr (x := i - 1) (by omega)
  have w2 := wr (x := b + i) (by omega)
  have g0 : 0 ≤ i := by omega
  have g1 : i < (can.length : Int) := by omega
  have hne : ¬ i = 0 := by omega
  have g2 : 0 ≤ i - 1 := by omega
  have g3 : i - 1 < ((acc ++ [(⟨b + i - 1, t⟩ : S39)]).length : Int) := by omega
  have g4 : (acc ++ [(⟨b + i - 1, t⟩ : S39)]).length < 8796093022208 := by omega
  have hla : (acc.length : Int) = i - 1 := by simp at ha; omega
  have hlast : rd_T39 (acc ++ [(⟨b + i - 1, t⟩ : S39)]) (i - 1) = ⟨b + i - 1, t⟩ := by rw [← hla]; exact r39_app acc [] _
  have hs := hC i (by omega) h2 u
  have fin : ∀ z : Bool, z = (decide (J l (b + i - 1) t (b + i) u ≤ L) && rch l L (m - i).toNat (b + i) u) → Ev (fun k => m_lay.j9 k l b L can (acc ++ [(⟨b + i - 1, t⟩ : S39)]) i ((m : Int) + 1) i c z false true false true (b + i) u) r := fun z hz => by
    rw [← hz] at hr
    cases z
    · rw [if_neg (by simp)] at hr
      refine Ev.step (fun k => ?_) hr
      simp only [m_lay.j9, Bool.false_eq_true, if_false]
    · rw [if_pos rfl] at hr
      refine Ev.step (fun k => ?_) hr
      simp only [m_lay.j9, if_true]
      rw [if_pos g4, w]
  by_cases q : s73 (rd_T73 can i) u = true
  · refine Ev.step (f := fun k => (m_between.f k l (b + i - 1) t (b + i) u).bind fun a => m_lay.j9 k l b L can (acc ++ [(⟨b + i - 1, t⟩ : S39)]) i ((m : Int) + 1) i c (decide (a ≤ L)) false true false true (b + i) u) (fun k => by
      simp only [m_lay.j8, w, w1, w2, hlast]
      cases u <;> simp only [s73] at q <;> simp only [way0, way1, Option.bind_some, if_pos g0, if_pos g1, if_neg i10, if_true, if_neg hne, if_pos g2, if_pos g3, if_pos g4] <;> simp at q <;> simp [q]) ?_
    refine Ev.bind (f := fun k a => m_lay.j9 k l b L can (acc ++ [(⟨b + i - 1, t⟩ : S39)]) i ((m : Int) + 1) i c (decide (a ≤ L)) false true false true (b + i) u) (btw_ev (a := b + i - 1) (b := b + i) h (by omega) (by omega) (by omega) (by omega) t u) ?_
    exact fin _ (by rw [← hs, q, Bool.and_true])
  · refine Ev.step (fun k => ?_) (fin false (by rw [← hs, Bool.eq_false_iff.2 q, Bool.and_false]))
    simp only [m_lay.j8, w, w1, w2]
    have q' := Bool.eq_false_iff.2 q
    cases u <;> simp only [s73] at q' <;> simp only [way0, way1, Option.bind_some, if_pos g0, if_pos g1, if_neg i10, if_true] <;> simp at q' <;> simp [q']
theorem lay3 {l : List S62} (h : Ok l) (b L : Int) (m : Nat) (hb : 0 ≤ b) (hn : b + m < l.length) {can : List S73} (hl : can.length = m + 1) (hC : Can l L b m can 0) : ∀ (f : Nat) (i : Int) (acc : List S39) (t : Bool), i + f = m + 1 → 1 ≤ i → ((acc ++ [(⟨b + i - 1, t⟩ : S39)]).length : Int) = i → rch l L f (b + i - 1) t = true →
    Ev (fun k => m_lay.l3 k l b L can (acc ++ [(⟨b + i - 1, t⟩ : S39)]) ((m : Int) + 1) i false true) (acc ++ ⟨b + i - 1, t⟩ :: rowS l L f (b + i - 1) t)
  | 0, i, acc, t, hi, h1, ha, hr => Ev.const1 fun k => by
    simp only [m_lay.l3]
    rw [if_neg (by omega)]; rfl
  | f + 1, i, acc, t, hi, h1, ha, hr => by
    have n2 := h.n2
    have e1 : b + i - 1 + 1 = b + i := by omega
    have e2 : ((m : Int) - i).toNat = f := by omega
    have ih : ∀ u, u = (!(decide (J l (b + i - 1) t (b + i) false ≤ L) && rch l L f (b + i) false)) → rch l L f (b + i) u = true → Ev (fun k => m_lay.l3 k l b L can (acc ++ [(⟨b + i - 1, t⟩ : S39)] ++ [⟨b + i, u⟩]) ((m : Int) + 1) (i + 1) false true) (acc ++ ⟨b + i - 1, t⟩ :: rowS l L (f + 1) (b + i - 1) t) := fun u hu hq => by
      have := lay3 h b L m hb hn hl hC f (i + 1) (acc ++ [(⟨b + i - 1, t⟩ : S39)]) u (by omega) (by omega) (by rw [len_snoc]; omega) (by rw [show b + (i + 1) - 1 = b + i by omega]; exact hq)
      rw [show b + (i + 1) - 1 = b + i by omega] at this
      refine Ev.eq this ?_
      rw [← app_snoc, rowS, e1, ← hu]
    rw [rch, e1] at hr
    refine Ev.step (f := fun k => m_lay.l4 k l b L can (acc ++ [(⟨b + i - 1, t⟩ : S39)]) i ((m : Int) + 1) i 0 false true false true) (fun k => by simp only [m_lay.l3]; rw [if_pos (by omega)]) ?_
    refine Ev.step (f := fun k => m_lay.j8 k l b L can (acc ++ [(⟨b + i - 1, t⟩ : S39)]) i false ((m : Int) + 1) i 0 false true false true) (fun k => by simp only [m_lay.l4, if_pos i02, if_true]) ?_
    refine lay7 h b L m hb hn hl hC h1 (by omega) acc t ha false 0 ?_
    rw [e2]
    by_cases q : (decide (J l (b + i - 1) t (b + i) false ≤ L) && rch l L f (b + i) false) = true
    · rw [if_pos q]
      exact ih false (by rw [q]; rfl) (by simp at q; exact q.2)
    · rw [if_neg q, w01]
      rw [Bool.eq_false_iff.2 q, Bool.false_or] at hr
      refine Ev.step (f := fun k => m_lay.j8 k l b L can (acc ++ [(⟨b + i - 1, t⟩ : S39)]) i true ((m : Int) + 1) i 1 false true false true) (fun k => by simp only [m_lay.l4, if_pos i12, if_neg i10, if_true]) ?_
      refine lay7 h b L m hb hn hl hC h1 (by omega) acc t ha true 1 ?_
      rw [e2, if_pos hr]
      exact ih true (by rw [Bool.eq_false_iff.2 q]; rfl) (by simp at hr; exact hr.2)
theorem lay_ev {l : List S62} (h : Ok l) (b L : Int) (m : Nat) (hb : 0 ≤ b) (hn : b + m < l.length) (ha : anyR l L m b = true) : Ev (fun k => m_lay.f k l b ((m : Int) + 1) L) (segR l L m b) := by
  have n2 := h.n2
  have e0 : ((m : Int) + 1).toNat = m + 1 := by omega
  have w1 := wr (x := (m : Int) + 1 - 1) (by omega)
  have w2 := wr (x := (m : Int) + 1 - 2) (by omega)
  have em : (m : Int) + 1 - 1 = m := by omega
  have w0 := wr (x := (m : Int)) (by omega)
  have hrep : (List.replicate (m + 1) z73).length = m + 1 := by simp
  have hz : ∀ j : Int, rd_T73 (List.replicate (m + 1) z73) j = z73 := fun j => by
    simp only [rd_T73, List.getD_eq_getElem?_getD, List.getElem?_replicate]
    split <;> rfl
  unfold m_lay.f
  simp only [if_pos (show (0 : Int) ≤ (m : Int) + 1 by omega), e0, if_pos (show m + 1 ≤ 140737488355328 by omega), Option.bind_some, w2, em, w0, if_pos (show (0 : Int) ≤ (m : Int) by omega), hrep, if_pos (show (m : Int) < ((m + 1 : Nat) : Int) by omega)]
  refine lay0 h b L m hb hn m ((m : Int) + 1 - 2) ((List.replicate (m + 1) z73).set ((m : Int) : Int).toNat (⟨true, true⟩ : S73)) (by omega) (by omega) (by rw [List.length_set]; exact hrep) ?_ ?_ ?_
  · intro j hj1 hj2 t
    have : j = m := by omega
    subst this
    rw [rd73_set (i := (m : Int)) (by omega) (by rw [hrep]; omega) (by omega), if_pos rfl, show ((m : Int) - m).toNat = 0 by omega]
    cases t <;> rfl
  · intro j hj0 hj1
    rw [rd73_set (i := (m : Int)) (by omega) (by rw [hrep]; omega) hj0, if_neg (by omega)]
    exact hz j
  · intro can hl hC
    have i01 : (0 : Int) < (m : Int) + 1 := by omega
    have g1 : (0 : Int) < (can.length : Int) := by omega
    have h00 := fun t => hC 0 (Int.le_refl _) (by omega) t
    rw [Int.add_zero, Int.sub_zero, Int.toNat_natCast] at h00
    have fin : ∀ t, t = (!(rch l L m b false)) → rch l L m b t = true → Ev (fun k => m_lay.l3 k l b L can [⟨b, t⟩] ((m : Int) + 1) 1 false true) (segR l L m b) := fun t ht hq => by
      have := lay3 h b L m hb hn hl hC m 1 [] t (by omega) (by omega) (by simp) (by rw [show b + 1 - 1 = b by omega]; exact hq)
      rw [show b + 1 - 1 = b by omega] at this
      refine Ev.eq this ?_
      unfold segR
      rw [← ht]; rfl
    have nil0 : ([] : List S39).length < 8796093022208 := by simp
    refine Ev.step (f := fun k => m_lay.l4 k l b L can [] 0 ((m : Int) + 1) 0 0 false true false true) (fun k => by simp only [m_lay.l3]; rw [if_pos i01]) ?_
    refine Ev.step (f := fun k => m_lay.j8 k l b L can [] 0 false ((m : Int) + 1) 0 0 false true false true) (fun k => by simp only [m_lay.l4, if_pos i02, if_true]) ?_
    have wb := wr (x := b) (by omega)
    have j9 : ∀ (u : Bool) (c : Int), u = (!(rch l L m b false)) → rch l L m b u = true → Ev (fun k => m_lay.j9 k l b L can [] 0 ((m : Int) + 1) 0 c true false true false true b u) (segR l L m b) := fun u c hu hq => by
      refine Ev.step (fun k => ?_) (fin u hu hq)
      simp only [m_lay.j9, if_true]
      rw [if_pos nil0, w01]; rfl
    by_cases q : rch l L m b false = true
    · refine Ev.step (fun k => ?_) (j9 false 0 (by rw [q]; rfl) q)
      have q' := (h00 false).trans q
      simp only [s73, Bool.false_eq_true, if_false] at q'
      simp only [m_lay.j8, way0, Option.bind_some, if_pos (Int.le_refl 0), if_pos g1, if_true, if_pos q', Int.add_zero, wb]
    · have q2 : rch l L m b true = true := by
        unfold anyR at ha
        rw [Bool.eq_false_iff.2 q, Bool.false_or] at ha
        exact ha
      refine Ev.step (f := fun k => m_lay.j9 k l b L can [] 0 ((m : Int) + 1) 0 0 false false true false true b false) (fun k => by
        have q' := (h00 false).trans (Bool.eq_false_iff.2 q)
        simp only [s73, Bool.false_eq_true, if_false] at q'
        simp only [m_lay.j8, way0, Option.bind_some, if_pos (Int.le_refl 0), if_pos g1, if_true, q', Bool.false_eq_true, if_false, Int.add_zero, wb]) ?_
      refine Ev.step (f := fun k => m_lay.l4 k l b L can [] 0 ((m : Int) + 1) 0 1 false true false true) (fun k => by
        simp only [m_lay.j9, Bool.false_eq_true, if_false, w01]) ?_
      refine Ev.step (f := fun k => m_lay.j8 k l b L can [] 0 true ((m : Int) + 1) 0 1 false true false true) (fun k => by simp only [m_lay.l4, if_pos i12, if_neg i10, if_true]) ?_
      refine Ev.step (fun k => ?_) (j9 true 1 (by rw [Bool.eq_false_iff.2 q]; rfl) q2)
      have q' := (h00 true).trans q2
      simp only [s73, if_true] at q'
      simp only [m_lay.j8, way1, Option.bind_some, if_pos (Int.le_refl 0), if_pos g1, if_true, if_neg i10, if_pos q', Int.add_zero, wb]

def nxU (l : List S62) (L b : Int) (d : Nat) (p : S73) (u : Bool) : Bool := (p.f0 && decide (J l (b + d) false (b + d + 1) u ≤ L)) || (p.f1 && decide (J l (b + d) true (b + d + 1) u ≤ L))
def fwd (l : List S62) (L b : Int) : Nat → S73
  | 0 => ⟨true, true⟩
  | d + 1 => ⟨nxU l L b d (fwd l L b d) false, nxU l L b d (fwd l L b d) true⟩
theorem bool_ex (a b c d e f g h : Bool) : ((((a && b) || (c && d)) && g) || (((a && e) || (c && f)) && h)) = ((a && ((b && g) || (e && h))) || (c && ((d && g) || (f && h)))) := by
  cases a <;> cases b <;> cases c <;> cases d <;> cases e <;> cases f <;> cases g <;> cases h <;> rfl
theorem fwd_any (l : List S62) (L b : Int) : ∀ (d k : Nat), (((fwd l L b d).f0 && rch l L k (b + d) false) || ((fwd l L b d).f1 && rch l L k (b + d) true)) = anyR l L (d + k) b
  | 0, k => by simp [fwd, anyR]
  | d + 1, k => by
    have := fwd_any l L b d (k + 1)
    rw [show d + 1 + k = d + (k + 1) by omega, ← this, rch, rch, fwd]
    simp only [nxU, show b + ((d + 1 : Nat) : Int) = b + (d : Int) + 1 by omega]
    exact bool_ex ..
theorem fwd_or (l : List S62) (L b : Int) (d : Nat) : ((fwd l L b d).f0 || (fwd l L b d).f1) = anyR l L d b := by
  have := fwd_any l L b d 0
  simpa [rch] using this
theorem r73_last (p : List S73) (e : S73) (h : p.length ≤ 1000) : rd_T73 (p ++ [e]) (wrap64 (((p ++ [e]).length : Int) - 1)) = e := by
  rw [wr (by simp; omega), len_snoc, show (p.length : Int) + 1 - 1 = p.length by omega]
  simp [rd_T73, List.getD_eq_getElem?_getD]
theorem runs5 {l : List S62} (h : Ok l) (L : Int) (out : List (List S39)) (b : Int) {re : List S73} {p : S73} (hl : re.length ≤ 1000) (hl1 : 1 ≤ re.length) (hp : rd_T73 re (wrap64 ((re.length : Int) - 1)) = p) {i : Int} (h0 : 0 ≤ i) (h1 : i + 1 < l.length) (t u : Bool) (c d : Int) (n0 n1 : Bool) {r : List (List S39) × Int}
    (hr : Ev (fun k => m_Runs.l3 k l L out b re (i + 1) t c (wrap64 (d + 1)) false true false true false true (if u = true then n0 else (n0 || (s73 p t && decide (J l i t (i + 1) u ≤ L)))) (if u = true then (n1 || (s73 p t && decide (J l i t (i + 1) u ≤ L))) else n1)) r) :
    Ev (fun k => m_Runs.j5 k l L out b re (i + 1) t u c d false true false true false true n0 n1) r := by
  have n2 := h.n2
  have w := wr (x := i) (by omega)
  have wl := wr (x := (re.length : Int) - 1) (by omega)
  have e : i + 1 - 1 = i := by omega
  have g0 : 0 ≤ wrap64 ((re.length : Int) - 1) := by rw [wl]; omega
  have g1 : wrap64 ((re.length : Int) - 1) < (re.length : Int) := by rw [wl]; omega
  have fin : ∀ z : Bool, z = (s73 p t && decide (J l i t (i + 1) u ≤ L)) → Ev (fun k => m_Runs.j6 k l L out b re (i + 1) t u c d z false true false true false true n0 n1) r := fun z hz => by
    rw [← hz] at hr
    cases z
    · rw [Bool.or_false, Bool.or_false] at hr
      refine Ev.step (f := fun k => m_Runs.l3 k l L out b re (i + 1) t c (wrap64 (d + 1)) false true false true false true n0 n1) (fun k => by simp only [m_Runs.j6, Bool.false_eq_true, if_false]) (by cases u <;> exact hr)
    · rw [Bool.or_true, Bool.or_true] at hr
      refine Ev.step (fun k => ?_) hr
      simp only [m_Runs.j6, if_true]
      cases u <;> simp [way0, way1]
  by_cases q : s73 p t = true
  · refine Ev.step (f := fun k => (m_between.f k l i t (i + 1) u).bind fun a => m_Runs.j6 k l L out b re (i + 1) t u c d (decide (a ≤ L)) false true false true false true n0 n1) (fun k => by
      simp only [m_Runs.j5, hp, e, w]
      cases t <;> simp only [s73] at q <;> simp only [way0, way1, Option.bind_some, if_pos g0, if_pos g1, if_neg i10, if_true] <;> simp at q <;> simp [q]) ?_
    refine Ev.bind (f := fun k a => m_Runs.j6 k l L out b re (i + 1) t u c d (decide (a ≤ L)) false true false true false true n0 n1) (btw_ev (a := i) (b := i + 1) h (by omega) (by omega) (by omega) (by omega) t u) ?_
    exact fin _ (by rw [q, Bool.true_and])
  · have q' := Bool.eq_false_iff.2 q
    refine Ev.step (fun k => ?_) (fin false (by rw [q', Bool.false_and]))
    simp only [m_Runs.j5, hp, e, w]
    cases t <;> simp only [s73] at q' <;> simp only [way0, way1, Option.bind_some, if_pos g0, if_pos g1, if_neg i10, if_true] <;> simp at q' <;> simp [q']
theorem runs2 {l : List S62} (h : Ok l) (L : Int) (out : List (List S39)) (b : Int) {re : List S73} {d : Nat} (hl : re.length ≤ 1000) (hl1 : 1 ≤ re.length) (hp : rd_T73 re (wrap64 ((re.length : Int) - 1)) = fwd l L b d) (h0 : 0 ≤ b) (h1 : b + d + 1 < l.length) {r : List (List S39) × Int}
    (hr : Ev (fun k => m_Runs.l2 k l L out b re (b + d + 1) 2 false true false true (fwd l L b (d + 1)).f0 (fwd l L b (d + 1)).f1) r) : Ev (fun k => m_Runs.l2 k l L out b re (b + d + 1) 0 false true false true false false) r := by
  have S := @runs5 l h L out b re (fwd l L b d) hl hl1 hp (b + d) (by omega) h1
  refine Ev.step (f := fun k => m_Runs.j3 k l L out b re (b + d + 1) false 0 false true false true false false) (fun k => by simp only [m_Runs.l2, if_pos i02, if_true]) ?_
  refine Ev.step (f := fun k => m_Runs.l3 k l L out b re (b + d + 1) false 0 0 false true false true false true false false) (fun k => rfl) ?_
  refine Ev.step (f := fun k => m_Runs.j5 k l L out b re (b + d + 1) false false 0 0 false true false true false true false false) (fun k => by simp only [m_Runs.l3, if_pos i02, if_true]) ?_
  refine S false false 0 0 _ _ ?_
  rw [w01]
  apply Ev.step
  focus (intro k; simp only [m_Runs.l3, if_pos i12, if_neg i10, if_true]; rfl)
  refine S false true 0 1 _ _ ?_
  rw [w11]
  apply Ev.step
  focus (intro k; simp only [m_Runs.l3, if_neg i22, w01]; rfl)
  apply Ev.step
  focus (intro k; simp only [m_Runs.l2, if_pos i12, if_neg i10, if_true]; rfl)
  apply Ev.step
  focus (intro k; simp only [m_Runs.j3]; rfl)
  apply Ev.step
  focus (intro k; simp only [m_Runs.l3, if_pos i02, if_true]; rfl)
  refine S true false 1 0 _ _ ?_
  rw [w01]
  apply Ev.step
  focus (intro k; simp only [m_Runs.l3, if_pos i12, if_neg i10, if_true]; rfl)
  refine S true true 1 1 _ _ ?_
  rw [w11]
  refine Ev.step (f := fun k => m_Runs.l2 k l L out b re (b + d + 1) 2 false true false true (fwd l L b (d + 1)).f0 (fwd l L b (d + 1)).f1) (fun k => by
    simp only [m_Runs.l3, if_neg i22, w11]
    simp [fwd, nxU, s73]) hr
theorem runs1 {l : List S62} (h : Ok l) (L : Int) (out : List (List S39)) {b : Int} (h0 : 0 ≤ b) {r : List (List S39) × Int} : ∀ (f d : Nat) (re : List S73), b + d + f = l.length - 1 → re.length = d + 1 → rd_T73 re (wrap64 ((re.length : Int) - 1)) = fwd l L b d →
    Ev (fun k => (m_lay.f k l b (((ext l L b f d : Nat) : Int) + 1) L).bind fun t => (if out.length < 5864062014805 then m_Runs.l0 k l L (out ++ [t]) (wrap64 (b + (((ext l L b f d : Nat) : Int) + 1))) false true else none)) r →
    Ev (fun k => m_Runs.l1 k l L out b re (b + d + 1) false true) r
  | 0, d, re, hd, hl, hp, hr => by
    have n2 := h.n2
    refine Ev.step (f := fun k => m_Runs.j7 k l L out b re false true) (fun k => by simp only [m_Runs.l1]; rw [if_neg (by omega)]) ?_
    refine Ev.step (fun k => ?_) hr
    simp only [m_Runs.j7]
    rw [hl]
    rfl
  | f + 1, d, re, hd, hl, hp, hr => by
    have n2 := h.n2
    refine Ev.step (f := fun k => m_Runs.l2 k l L out b re (b + d + 1) 0 false true false true false false) (fun k => by simp only [m_Runs.l1]; rw [if_pos (by omega)]) ?_
    refine runs2 h L out b (by omega) (by omega) hp h0 (by omega) ?_
    have ho := fwd_or l L b (d + 1)
    simp only [ext] at hr
    by_cases q : anyR l L (d + 1) b = true
    · rw [if_pos q] at hr
      rw [q] at ho
      refine Ev.step (f := fun k => m_Runs.l1 k l L out b (re ++ [fwd l L b (d + 1)]) (b + ((d + 1 : Nat) : Int) + 1) false true) (fun k => by
        simp only [m_Runs.l2, if_neg i22]
        rw [if_neg (by intro hc; rw [Bool.and_eq_true, Bool.not_eq_true', Bool.not_eq_true'] at hc; rw [hc.1, hc.2] at ho; cases ho), if_pos (by omega), wr (by omega), show b + (d : Int) + 1 + 1 = b + ((d + 1 : Nat) : Int) + 1 by omega]) ?_
      exact runs1 h L out h0 f (d + 1) _ (by omega) (by simp [hl]) (r73_last re _ (by omega)) hr
    · rw [if_neg q] at hr
      rw [Bool.eq_false_iff.2 q] at ho
      refine Ev.step (f := fun k => m_Runs.j7 k l L out b re false true) (fun k => by
        simp only [m_Runs.l2, if_neg i22]
        rw [if_pos (by rw [Bool.or_eq_false_iff] at ho; rw [ho.1, ho.2]; rfl)]) ?_
      refine Ev.step (fun k => ?_) hr
      simp only [m_Runs.j7]
      rw [hl]
      rfl
theorem runs0 {l : List S62} (h : Ok l) (L : Int) : ∀ (f : Nat) (b : Int) (out : List (List S39)), 0 ≤ b → l.length - b ≤ f → (out.length : Int) ≤ b → Ev (fun k => m_Runs.l0 k l L out b false true) (out ++ runsR l L f b, 0)
  | 0, b, out, h0, hf, ho => Ev.const1 fun k => by
    simp only [m_Runs.l0]
    rw [if_neg (by omega)]
    simp [runsR]
  | f + 1, b, out, h0, hf, ho => by
    have n2 := h.n2
    by_cases hb : b < l.length
    · have e1 := ext_le l L b (l.length - 1 - b).toNat 0
      have e2 := ext_any l L b (l.length - 1 - b).toNat 0 rfl
      have hlt : b + (len1 l L b : Nat) < l.length := by unfold len1; omega
      have ih := runs0 h L f (b + len1 l L b + 1) (out ++ [segR l L (len1 l L b) b]) (by omega) (by omega) (by simp; omega)
      refine Ev.step (f := fun k => m_Runs.l1 k l L out b [(⟨true, true⟩ : S73)] (b + ((0 : Nat) : Int) + 1) false true) (fun k => by
        simp only [m_Runs.l0]
        rw [if_pos hb, wr (by omega)]; simp) ?_
      refine runs1 h L out h0 (l.length - 1 - b).toNat 0 _ (by omega) rfl (r73_last [] ⟨true, true⟩ (by simp)) ?_
      refine Ev.bind (f := fun k t => (if out.length < 5864062014805 then m_Runs.l0 k l L (out ++ [t]) (wrap64 (b + (((ext l L b (l.length - 1 - b).toNat 0 : Nat) : Int) + 1))) false true else none)) (lay_ev h b L (len1 l L b) h0 hlt e2) ?_
      show Ev (fun k => (if out.length < 5864062014805 then m_Runs.l0 k l L (out ++ [segR l L (len1 l L b) b]) (wrap64 (b + (((len1 l L b : Nat) : Int) + 1))) false true else none)) _
      simp only [if_pos (show out.length < 5864062014805 by omega)]
      rw [wr (by omega), show b + (((len1 l L b : Nat) : Int) + 1) = b + (len1 l L b : Nat) + 1 by omega]
      refine Ev.eq ih ?_
      simp only [runsR]
      rw [if_pos hb]; simp
    · exact Ev.const1 fun k => by
        simp only [m_Runs.l0, runsR]
        rw [if_neg hb, if_neg hb]; simp
theorem runs_ev (l : List S62) (L : Int) : Ev (fun k => m_Runs.f k l L) (if ck l = 0 then (if L < 0 then ([], 1) else (runsR l L l.length 0, 0)) else ([], ck l)) := by
  unfold m_Runs.f
  refine Ev.bind (f := fun k t212 => (if t212 = 0 then (if L < 0 then (some (([] : List (List (S39))), 1)) else (m_Runs.l0 k l L ([] : List (List (S39))) 0 false true)) else (some (([] : List (List (S39))), t212)))) (ck_ev l) ?_
  by_cases h : ck l = 0
  · simp only [if_pos h]
    by_cases q : L < 0
    · simp only [if_pos q]; exact Ev.now _
    · simp only [if_neg q]
      exact runs0 (ok_of h) L l.length 0 [] (Int.le_refl 0) (by omega) (by simp)
  · simp only [if_neg h]; exact Ev.now _

def ho (s : S68) : S39 := ⟨s.f0, s.f1⟩
theorem okRow_in (n : Int) : ∀ (r : List S39) (s : List Int), okRow n r s = true → ∀ x ∈ r, 0 ≤ x.f0 ∧ x.f0 < n
  | [], _, _, x, hx => by simp at hx
  | y :: r, s, h, x, hx => by
    simp only [okRow] at h
    by_cases q1 : y.f0 < 0
    · rw [if_pos q1] at h; simp at h
    · rw [if_neg q1] at h
      by_cases q2 : y.f0 ≥ n
      · rw [if_pos q2] at h; simp at h
      · rw [if_neg q2] at h
        by_cases q3 : y.f0 ∈ s
        · rw [if_pos q3] at h; simp at h
        · rw [if_neg q3] at h
          rcases List.mem_cons.1 hx with rfl | hx
          · omega
          · exact okRow_in n r _ h x hx
theorem Cost_ev (l : List S62) (row : List S39) (hl : row.length ≤ 1000) : Ev (fun k => m_Cost.f k l row) (if ck l = 0 then (if okRow l.length row [] = true then (costR l row, 0) else (0, 1)) else (0, ck l)) := by
  unfold m_Cost.f
  refine Ev.bind (f := fun k t => (if t = 0 then (if okRow (l.length : Int) row [] = true then ((m_cost.f k l row).bind fun c => (some (c, 0))) else (some (0, 1))) else (some (0, t)))) (ck_ev l) ?_
  by_cases h : ck l = 0
  · simp only [if_pos h]
    by_cases q : okRow (l.length : Int) row [] = true
    · simp only [if_pos q]
      exact Ev.bind (f := fun k c => (some (c, (0 : Int)))) (cost_ev (ok_of h) row (okRow_in _ _ _ q) hl) (Ev.now _)
    · simp only [if_neg q]; exact Ev.now _
  · simp only [if_neg h]; exact Ev.now _
end Go.Proofs.YtglkcinmohjblaaDoor.XA
namespace Go.Proofs.YtglkcinmohjblaaDoor.Pure
set_option linter.unusedVariables false
set_option linter.unusedSimpArgs false
open Go.RowKit Go.Proofs.YtglkcinmohjblaaDoor.Opens Go.Proofs.YtglkcinmohjblaaDoor.XA Go.Proofs.YtglkcinmohjblaaDoorW.PrintWords Go.Proofs.YtglkcinmohjblaaDoorW.PrintLast Go.Proofs.YtglkcinmohjblaaDoorW.PrintMore
/-- A row from slab b on: its slabs follow each other, each joint keeps the limit. -/
def WR (l : List S62) (L : Int) : Int → List S39 → Prop
  | b, x :: y :: r => x.f0 = b ∧ J l x.f0 x.f1 y.f0 y.f1 ≤ L ∧ WR l L (b + 1) (y :: r)
  | b, [x] => x.f0 = b
  | _, [] => True
theorem rowS_wr (l : List S62) (L : Int) : ∀ (m : Nat) (i : Int) (t : Bool), rch l L m i t = true → WR l L i (⟨i, t⟩ :: rowS l L m i t)
  | 0, i, t, _ => rfl
  | m + 1, i, t, h => by
    rw [rch] at h
    simp only [rowS]
    by_cases q : (decide (J l i t (i + 1) false ≤ L) && rch l L m (i + 1) false) = true
    · rw [q]
      have q' := q
      simp only [Bool.and_eq_true, decide_eq_true_eq] at q'
      exact ⟨rfl, q'.1, rowS_wr l L m (i + 1) _ q'.2⟩
    · rw [Bool.eq_false_iff.2 q, Bool.false_or] at h
      rw [Bool.eq_false_iff.2 q]
      simp only [Bool.and_eq_true, decide_eq_true_eq] at h
      exact ⟨rfl, h.1, rowS_wr l L m (i + 1) _ h.2⟩
theorem segR_wr (l : List S62) (L : Int) (m : Nat) (b : Int) (h : anyR l L m b = true) : WR l L b (segR l L m b) := by
  unfold segR
  refine rowS_wr l L m b _ ?_
  unfold anyR at h
  cases q : rch l L m b false
  · rw [q, Bool.false_or] at h; exact h
  · exact q
theorem pair_cut (p : List S39) (y x : S39) (s : List S39) : ((p ++ y :: x :: s).take (p.length + 2)).drop p.length = [y, x] := by
  rw [show p.length + 2 = p.length + 2 from rfl, List.take_length_add_append]
  simp
theorem tn2 (n : Nat) : ((n : Int) + 1 + 1).toNat = n + 2 := by omega
theorem tn0 (n : Nat) : ((n : Int) + 1 - 1).toNat = n := by omega
theorem nums {p s row : Nat} (h : row = p + s + 2) : 0 ≤ (p : Int) + 1 ∧ (p : Int) + 1 < (row : Int) ∧ ¬ (p : Int) + 1 = 0 ∧ 0 ≤ (p : Int) + 1 - 1 ∧ (p : Int) + 1 - 1 ≤ (p : Int) + 1 + 1 ∧ (p : Int) + 1 + 1 ≤ (row : Int) := by
  subst h
  refine ⟨?_, ?_, ?_, ?_, ?_, ?_⟩ <;> omega
theorem wrs {p row : Nat} (h : p ≤ row) (hr : row ≤ 1000) : wrap64 ((p : Int) + 1 - 1) = (p : Int) + 1 - 1 ∧ wrap64 ((p : Int) + 1 + 1) = (p : Int) + 1 + 1 := ⟨wr (by omega), wr (by omega)⟩
theorem ok2 {n b : Int} {y x : S39} (e1 : y.f0 = b) (ex : x.f0 = b + 1) (h0 : 0 ≤ b) (h1 : b + 1 < n) : okRow n [y, x] [] = true := by
  simp only [okRow]
  rw [if_neg (by omega), if_neg (by omega), if_neg (by simp), if_neg (by omega), if_neg (by omega), if_neg (by simp; omega)]
theorem whole1 {l : List S62} (h : Ok l) (L : Int) (R : List (List S39)) {i : Nat} (hi : i < R.length) (hR : R.length ≤ 1000) (row : List S39) (hrow : rd_L10 R (i : Int) = row) (hrl : row.length ≤ 1000) {r : Bool} : ∀ (s p : List S39) (y : S39) (b : Int), row = p ++ y :: s → 0 ≤ b → b + s.length < l.length → WR l L b (y :: s) →
    Ev (fun k => lw_BookmatchWhole.l0 k l L R (b + 1 + s.length) ((i : Int) + 1)) r → Ev (fun k => lw_BookmatchWhole.l1 k l L R (b + 1) (i : Int) ((p.length : Int) + 1)) r
  | [], p, y, b, hp, h0, h1, hw, hr => by
    refine Ev.step (fun k => ?_) hr
    simp only [lw_BookmatchWhole.l1]
    rw [if_pos (by omega), if_pos (by omega), hrow, if_neg (by rw [hp]; simp), wr (by omega)]
    simp
  | x :: s, p, y, b, hp, h0, h1, hw, hr => by
    have n2 := h.n2
    simp only [List.length_cons] at h1
    obtain ⟨e1, e2, hw'⟩ := hw
    have ex : x.f0 = b + 1 := by
      cases s with
      | nil => exact hw'
      | cons z s => exact hw'.1
    have hla : row.length = p.length + s.length + 2 := by rw [hp]; simp; omega
    have rx : rd_T39 row ((p.length : Int) + 1) = x := by rw [hp, app_snoc, ← len_snoc p y]; exact r39_app (p ++ [y]) s x
    obtain ⟨a0, a1, a2, a3, a4, a5⟩ := nums hla
    obtain ⟨w1, w2⟩ := wrs (p := p.length) (row := row.length) (by omega) hrl
    have w3 : wrap64 (b + 1 + 1) = b + 1 + 1 := wr ⟨by omega, by omega⟩
    have g0 : (0 : Int) ≤ (i : Int) := by omega
    have g1 : (i : Int) < (R.length : Int) := by omega
    have ih := whole1 h L R hi hR row hrow hrl s (p ++ [y]) x (b + 1) (by rw [hp, app_snoc]) (by omega) (by omega) hw' (by
      rw [show b + 1 + 1 + (s.length : Int) = b + 1 + ((x :: s).length : Int) by simp; omega]; exact hr)
    have hcut : ((row.take ((p.length : Int) + 1 + 1).toNat).drop ((p.length : Int) + 1 - 1).toNat) = [y, x] := by
      rw [hp, tn2, tn0]
      exact pair_cut p y x s
    have hok : okRow (l.length : Int) [y, x] [] = true := ok2 e1 ex h0 (by omega)
    have hc := Cost_ev l [y, x] (by simp)
    rw [if_pos (ok_ck h), if_pos hok] at hc
    refine Ev.step (f := fun k => lw_BookmatchWhole.j8 k l L R (b + 1) (i : Int) ((p.length : Int) + 1)) (fun k => by
      simp only [lw_BookmatchWhole.l1]
      rw [if_pos g0, if_pos g1, hrow, if_pos a1]) ?_
    refine Ev.step (f := fun k => lw_BookmatchWhole.j9 k l L R (b + 1) (i : Int) ((p.length : Int) + 1)) (fun k => by
      simp only [lw_BookmatchWhole.j8]
      rw [if_pos g0, if_pos g1, hrow, if_pos a0, if_pos a1, rx, if_pos ex]) ?_
    refine Ev.step (f := fun k => lw_BookmatchWhole.j10 k l L R (b + 1 + 1) (i : Int) ((p.length : Int) + 1)) (fun k => by
      simp only [lw_BookmatchWhole.j9]
      rw [if_neg a2, w3]) ?_
    refine Ev.step (f := fun k => (m_Cost.f k l [y, x]).bind fun bt755 => (lw_BookmatchWhole.j11 k l L R (b + 1 + 1) (i : Int) ((p.length : Int) + 1) bt755.1 bt755.2)) (fun k => by
      simp only [lw_BookmatchWhole.j10]
      rw [if_pos g0, if_pos g1, hrow, w1, w2, if_pos a3, if_pos a4, if_pos a5, hcut]) ?_
    refine Ev.bind (f := fun k bt755 => (lw_BookmatchWhole.j11 k l L R (b + 1 + 1) (i : Int) ((p.length : Int) + 1) bt755.1 bt755.2)) hc ?_
    have hcost : ¬ costR l [y, x] > L := by simp only [costR]; omega
    apply Ev.step
    focus (intro k; simp only [lw_BookmatchWhole.j11, if_true, decide_eq_false hcost]; rfl)
    apply Ev.step
    focus (intro k; simp only [lw_BookmatchWhole.j12, Bool.false_eq_true, if_false]; rfl)
    refine Ev.step (fun k => ?_) ih
    simp only [lw_BookmatchWhole.j13]
    rw [w2, len_snoc]
theorem whole0 {l : List S62} (h : Ok l) (L : Int) {r : Bool} : ∀ (f : Nat) (b : Int) (P : List (List S39)), 0 ≤ b → l.length - b ≤ f → (P ++ runsR l L f b).length ≤ 1000 → b ≤ l.length → Ev (fun k => lw_BookmatchWhole.j14 k l) r →
    Ev (fun k => lw_BookmatchWhole.l0 k l L (P ++ runsR l L f b) b (P.length : Int)) r
  | f, b, P, h0, hf, hR, hb, hr => by
    have n2 := h.n2
    by_cases q : b < l.length
    · obtain ⟨g, rfl⟩ : ∃ g, f = g + 1 := ⟨f - 1, by omega⟩
      have e1 := ext_le l L b (l.length - 1 - b).toNat 0
      have e2 := ext_any l L b (l.length - 1 - b).toNat 0 rfl
      have hlt : b + (len1 l L b : Nat) < l.length := by unfold len1; omega
      have hu : runsR l L (g + 1) b = segR l L (len1 l L b) b :: runsR l L g (b + len1 l L b + 1) := by simp only [runsR]; rw [if_pos q]
      have hrow : rd_L10 (P ++ runsR l L (g + 1) b) (P.length : Int) = segR l L (len1 l L b) b := by rw [hu]; simp [rd_L10, List.getD_eq_getElem?_getD]
      have hPl : P.length < (P ++ runsR l L (g + 1) b).length := by rw [hu]; simp
      have hsl := segR_len l L (len1 l L b) b
      have e3 : P ++ runsR l L (g + 1) b = (P ++ [segR l L (len1 l L b) b]) ++ runsR l L g (b + len1 l L b + 1) := by rw [hu, app_snoc]
      have ih := whole0 h L g (b + len1 l L b + 1) (P ++ [segR l L (len1 l L b) b]) (by omega) (by omega) (by rw [← e3]; exact hR) (by omega) hr
      rw [← e3, len_snoc] at ih
      have hw := segR_wr l L (len1 l L b) b e2
      have g0 : (0 : Int) ≤ (P.length : Int) := by omega
      have g1 : (P.length : Int) < ((P ++ runsR l L (g + 1) b).length : Int) := by omega
      refine Ev.step (f := fun k => lw_BookmatchWhole.j5 k l L (P ++ runsR l L (g + 1) b) b (P.length : Int)) (fun k => by
        simp only [lw_BookmatchWhole.l0]
        rw [if_pos g1]) ?_
      refine Ev.step (f := fun k => lw_BookmatchWhole.j6 k l L (P ++ runsR l L (g + 1) b) b (P.length : Int)) (fun k => by
        simp only [lw_BookmatchWhole.j5]
        rw [if_pos g0, if_pos g1, hrow, if_neg (by rw [hsl]; omega)]) ?_
      refine Ev.step (f := fun k => lw_BookmatchWhole.l1 k l L (P ++ runsR l L (g + 1) b) b (P.length : Int) 0) (fun k => by simp only [lw_BookmatchWhole.j6]) ?_
      refine Ev.step (f := fun k => lw_BookmatchWhole.j8 k l L (P ++ runsR l L (g + 1) b) b (P.length : Int) 0) (fun k => by
        simp only [lw_BookmatchWhole.l1]
        rw [if_pos g0, if_pos g1, hrow, if_pos (by rw [hsl]; omega)]) ?_
      have r0 : (rd_T39 (segR l L (len1 l L b) b) 0).f0 = b := rfl
      refine Ev.step (f := fun k => lw_BookmatchWhole.j9 k l L (P ++ runsR l L (g + 1) b) b (P.length : Int) 0) (fun k => by
        simp only [lw_BookmatchWhole.j8]
        rw [if_pos g0, if_pos g1, hrow, if_pos (Int.le_refl 0), if_pos (by rw [hsl]; omega), if_pos r0]) ?_
      refine Ev.step (f := fun k => lw_BookmatchWhole.j13 k l L (P ++ runsR l L (g + 1) b) (b + 1) (P.length : Int) 0) (fun k => by
        simp only [lw_BookmatchWhole.j9, if_true]
        rw [wr (by omega)]) ?_
      refine Ev.step (f := fun k => lw_BookmatchWhole.l1 k l L (P ++ runsR l L (g + 1) b) (b + 1) (P.length : Int) ((([] : List S39).length : Int) + 1)) (fun k => by
        simp only [lw_BookmatchWhole.j13]
        rw [w01]; rfl) ?_
      have hrs := rowS_len l L (len1 l L b) b (!(rch l L (len1 l L b) b false))
      refine whole1 h L (P ++ runsR l L (g + 1) b) hPl hR _ hrow (by omega) (rowS l L (len1 l L b) b (!(rch l L (len1 l L b) b false))) [] ⟨b, !(rch l L (len1 l L b) b false)⟩ b rfl h0 (by omega) hw ?_
      rw [hrs, show b + 1 + (len1 l L b : Int) = b + (len1 l L b : Int) + 1 by omega]
      exact ih
    · have hu : runsR l L f b = [] := by
        cases f with
        | zero => rfl
        | succ f => simp only [runsR]; rw [if_neg q]
      rw [hu, List.append_nil]
      refine Ev.step (fun k => ?_) hr
      simp only [lw_BookmatchWhole.l0]
      rw [if_neg (by omega), if_pos (by omega)]
  termination_by f => f
theorem rch_all {l : List S62} (h : Ok l) {L : Int} (hL : 64000 ≤ L) : ∀ (m : Nat) (i : Int) (t : Bool), 0 ≤ i → i + m < l.length → rch l L m i t = true
  | 0, _, _, _, _ => rfl
  | m + 1, i, t, h0, h1 => by
    have := J_bd h h0 (by omega) (show 0 ≤ i + 1 by omega) (by omega) t false
    rw [rch, rch_all h hL m (i + 1) false (by omega) (by omega), decide_eq_true (by omega)]
    rfl
theorem one_run {l : List S62} (h : Ok l) {L : Int} (hL : 64000 ≤ L) : (runsR l L l.length 0).length = 1 := by
  have n1 := h.n1
  have e1 := ext_le l L 0 ((l.length : Int) - 1 - 0).toNat 0
  have e2 := ext_ge l L 0 ((l.length : Int) - 1 - 0).toNat 0 (l.length - 1) (by omega) (by omega) (by unfold anyR; rw [rch_all h hL (l.length - 1) 0 false (Int.le_refl 0) (by omega)]; rfl)
  obtain ⟨n, hn⟩ : ∃ n, l.length = n + 1 := ⟨l.length - 1, by omega⟩
  have hl1 : len1 l L 0 = l.length - 1 := by unfold len1; omega
  have tail : ∀ g, runsR l L g (0 + ((l.length - 1 : Nat) : Int) + 1) = [] := fun g => by
    cases g with
    | zero => rfl
    | succ g => simp only [runsR]; rw [if_neg (by omega)]
  have : ∀ f, f = l.length → (runsR l L f 0).length = 1 := fun f hf => by
    cases f with
    | zero => omega
    | succ g => simp only [runsR]; rw [if_pos (by omega), hl1, tail g]; rfl
  exact this _ rfl
theorem wrunsR_len (l : List S62) (L : Int) : ∀ (f : Nat) (b : Int), (runsR l L f b).length ≤ f
  | 0, b => by simp [runsR]
  | f + 1, b => by
    simp only [runsR]
    split
    · have := wrunsR_len l L f (b + len1 l L b + 1)
      simp only [List.length_cons]; omega
    · simp
theorem Whole_ev (l : List S62) (a : Int) : Ev (fun k => lw_BookmatchWhole.f k l a) true := by
  obtain ⟨c, hc, _, _⟩ := few_ev l 12 (by omega)
  unfold lw_BookmatchWhole.f
  refine Ev.bind (f := fun k t459 => (lw_BookmatchWhole.j0 k l a (!t459))) hc ?_
  cases c with
  | false =>
    exact Ev.step (fun k => by simp only [lw_BookmatchWhole.j0, Bool.not_false, if_true]) awk1
  | true =>
    apply Ev.step
    focus (intro k; simp only [lw_BookmatchWhole.j0, Bool.not_true, Bool.false_eq_true, if_false]; rfl)
    apply Ev.step
    focus (intro k; simp only [lw_BookmatchWhole.j1]; rfl)
    refine Ev.bind (f := fun k bt627 => (lw_BookmatchWhole.j2 k l a bt627.1 bt627.2)) (runs_ev l a) ?_
    by_cases h : ck l = 0
    · have hk := ok_of h
      have n1 := hk.n1
      have n2 := hk.n2
      simp only [if_pos h]
      by_cases q : a < 0
      · simp only [if_pos q]
        apply Ev.step
        focus (intro k; simp only [lw_BookmatchWhole.j2, if_neg i10]; rfl)
        exact awk1
      · simp only [if_neg q]
        have hlen := wrunsR_len l a l.length 0
        apply Ev.step
        focus (intro k; simp only [lw_BookmatchWhole.j2, if_true]; rfl)
        apply Ev.step
        focus (intro k; simp only [lw_BookmatchWhole.j3]; rfl)
        refine whole0 hk a l.length 0 [] (Int.le_refl 0) (by omega) (by simp only [List.nil_append]; omega) (by omega) ?_
        apply Ev.step
        focus (intro k; simp only [lw_BookmatchWhole.j14]; rfl)
        refine Ev.bind (best_ev l 1) ?_
        simp only [if_pos h, if_neg (show ¬ ((1 : Int) < 1 ∨ (1 : Int) > l.length) by omega)]
        have hb0 : bestV l ((1 : Int).toNat - 1) (bestB l 1) = 0 := by simp [bestV, Lm]
        apply Ev.step
        focus (intro k; simp only [lw_BookmatchWhole.j15, if_true, hb0]; rfl)
        apply Ev.step
        focus (intro k; simp only [lw_BookmatchWhole.j16, bne_self_eq_false, Bool.false_eq_true, if_false]; rfl)
        apply Ev.step
        focus (intro k; simp only [lw_BookmatchWhole.j17]; rfl)
        refine Ev.bind (runs_ev l 100000000) ?_
        simp only [if_pos h, if_neg (show ¬ (100000000 : Int) < 0 by decide)]
        apply Ev.step
        focus (intro k; simp only [lw_BookmatchWhole.j18, if_true]; rfl)
        refine awk ?_
        exact Ev.const1 fun k => by simp [lw_BookmatchWhole.j19, one_run hk (L := 100000000) (by omega)]
    · simp only [if_neg h]
      apply Ev.step
      focus (intro k; simp only [lw_BookmatchWhole.j2, if_neg h]; rfl)
      exact awk1
theorem BookmatchWhole : lw_BookmatchWhole.Pure := by
  intro l a g g1
  exact Ev.rounds (Whole_ev l a)
end Go.Proofs.YtglkcinmohjblaaDoor.Pure
