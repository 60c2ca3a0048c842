/- A row of package anchor keeps its rule, and there are rows exactly up to Most. No condition. -/
import Derived.Test.YtmmmmgdafifpiaaXAx0
import Derived.Test.YtmmmmgdafifpiaaXAx29
import Derived.Test.YtmmmmgdafifpiaaMd
namespace Go.Proofs.Ytmmmmgdafifpiaa.Pure
open Go.RowKit Go.Proofs.Ytmmmmgdafifpiaa.Opens Go.Proofs.Ytmmmmgdafifpiaa.XA Go.Proofs.YtmmmmgdafifpiaaW.PrintWords Go.Proofs.YtmmmmgdafifpiaaW.PrintLast Go.Proofs.YtmmmmgdafifpiaaW.PrintMore
set_option linter.unusedVariables false
set_option linter.unusedSimpArgs false
theorem pw_range {α : Type} (g : Nat → α) (R : α → α → Prop) (n : Nat) : ((List.range n).map g).Pairwise R ↔ ∀ i j, i < j → j < n → R (g i) (g j) := by
  rw [List.pairwise_iff_getElem]
  constructor
  · intro h i j hij hj
    have := h i j (by simp; omega) (by simp; omega) hij
    simpa using this
  · intro h i j hi hj hij
    have := h i j hij (by simpa using hj)
    simpa using this
/-- Neighbours of a row are far enough. -/
theorem sq_le {a s : Int} (ha : 0 ≤ a) (hs : 0 ≤ s) : a * a < s * s ↔ a < s := by
  constructor
  · intro h
    rcases Int.lt_or_le a s with q | q
    · exact q
    · have := Int.mul_le_mul q q hs ha; omega
  · intro h
    have h1 := Int.mul_le_mul (Int.le_of_lt h) (Int.le_refl a) ha hs
    have h2 : s * a < s * s := Int.mul_lt_mul_of_pos_left h (by omega)
    omega
theorem div_add_le (x y d : Int) (hd : 0 < d) : x / d + y / d ≤ (x + y) / d := by
  rw [Int.le_ediv_iff_mul_le hd, Int.add_mul]
  have := Int.ediv_mul_le x (show d ≠ 0 by omega)
  have := Int.ediv_mul_le y (show d ≠ 0 by omega)
  omega
theorem pos_step {w e n i : Int} (hn : 2 ≤ n) (hL : 0 ≤ w - e - e) : pos w e n i + (w - e - e) / (n - 1) ≤ pos w e n (i + 1) := by
  unfold pos
  rw [if_neg (by omega), if_neg (by omega), Int.mul_add, Int.mul_one]
  have := div_add_le ((w - e - e) * i) (w - e - e) (n - 1) (by omega)
  omega
theorem pos_mono {w e n : Int} (hn : 2 ≤ n) (hL : 0 ≤ w - e - e) {s : Int} (hs : 1 ≤ s) (h : s ≤ (w - e - e) / (n - 1)) : ∀ (d i : Nat), pos w e n i + s ≤ pos w e n ((i + d + 1 : Nat) : Int) := by
  intro d
  induction d with
  | zero => intro i; have := pos_step (i := i) hn hL; rw [show ((i + 0 + 1 : Nat) : Int) = (i : Int) + 1 by omega]; omega
  | succ d ih => intro i; have := ih i; have := pos_step (i := ((i + d + 1 : Nat) : Int)) hn hL; rw [show ((i + (d + 1) + 1 : Nat) : Int) = ((i + d + 1 : Nat) : Int) + 1 by omega]; omega
/-- What a row of n must meet. -/
theorem hd_iff {X Y Z f e s : Int} (hZ : Sz X Y Z) (hf : 0 ≤ f ∧ f ≤ 5) (he : 0 ≤ e ∧ e ≤ 10000) (hs : 1 ≤ s) {n : Nat} (hn : 1 ≤ n ∧ n ≤ 16) : hd X Y Z f e s n = true ↔
    (∀ i < n, (e ≤ pos (fc X Y Z f).1 e n i ∧ pos (fc X Y Z f).1 e n i ≤ (fc X Y Z f).1 - e) ∧ e ≤ (fc X Y Z f).2 / 2 ∧ (fc X Y Z f).2 / 2 ≤ (fc X Y Z f).2 - e) ∧
      ∀ i j, i < j → j < n → ¬ ((pos (fc X Y Z f).1 e n i - pos (fc X Y Z f).1 e n j) * (pos (fc X Y Z f).1 e n i - pos (fc X Y Z f).1 e n j) < s * s) := by
  have hb := fc_bounds hZ f
  unfold hd
  have hm : mx e e = e := by unfold mx; split <;> rfl
  rw [decide_eq_true_eq, pl_zero, kp_zero]
  unfold rw_
  rw [pw_range]
  simp only [List.mem_map, List.mem_range, forall_exists_index, and_imp, forall_apply_eq_imp_iff₂, List.length_map, List.length_range]
  unfold ge gp gk cf an
  simp only [hm, decide_eq_true_eq, decide_eq_false_iff_not, true_and, Int.sub_self, Int.zero_mul, Int.add_zero]
  constructor
  · rintro ⟨⟨_, _, h1⟩, h2, h3⟩
    exact ⟨h2, h3⟩
  · rintro ⟨h2, h3⟩
    refine ⟨⟨hn.2, fun i hi => ⟨hf, he⟩, fun i hi => ?_⟩, h2, h3⟩
    have := h2 i hi
    omega
theorem hd_2 {X Y Z f e s : Int} (hZ : Sz X Y Z) (hf : 0 ≤ f ∧ f ≤ 5) (he : 0 ≤ e ∧ e ≤ 10000) (hs : 1 ≤ s) {n : Nat} (hn : 2 ≤ n ∧ n ≤ 16) : hd X Y Z f e s n = true ↔
    0 ≤ (fc X Y Z f).1 - e - e ∧ s ≤ ((fc X Y Z f).1 - e - e) / ((n : Int) - 1) ∧ e ≤ (fc X Y Z f).2 / 2 ∧ (fc X Y Z f).2 / 2 ≤ (fc X Y Z f).2 - e := by
  rw [hd_iff hZ hf he hs (by omega)]
  have p0 : pos (fc X Y Z f).1 e n (0 : Nat) = e := by
    unfold pos; rw [if_neg (by omega)]; simp
  have p1 : pos (fc X Y Z f).1 e n (1 : Nat) = e + ((fc X Y Z f).1 - e - e) / ((n : Int) - 1) := by
    unfold pos; rw [if_neg (by omega)]; simp
  constructor
  · rintro ⟨h1, h2⟩
    have a0 := h1 0 (by omega)
    have a1 := h2 0 1 (by omega) (by omega)
    rw [p0] at a0
    rw [p0, p1] at a1
    have hL : 0 ≤ (fc X Y Z f).1 - e - e := by omega
    have hq : 0 ≤ ((fc X Y Z f).1 - e - e) / ((n : Int) - 1) := Int.ediv_nonneg hL (by omega)
    rw [show e - (e + ((fc X Y Z f).1 - e - e) / ((n : Int) - 1)) = -(((fc X Y Z f).1 - e - e) / ((n : Int) - 1)) by omega, Int.neg_mul_neg, sq_le hq (by omega)] at a1
    exact ⟨hL, by omega, a0.2⟩
  · rintro ⟨hL, h1, h2⟩
    have pn : pos (fc X Y Z f).1 e n ((n - 1 : Nat) : Int) = (fc X Y Z f).1 - e := by
      unfold pos; rw [if_neg (by omega), show ((n - 1 : Nat) : Int) = (n : Int) - 1 by omega, Int.mul_ediv_cancel _ (by omega)]; omega
    have hmono : ∀ i j : Nat, i < j → pos (fc X Y Z f).1 e n i + s ≤ pos (fc X Y Z f).1 e n j := by
      intro i j hij
      have := pos_mono (w := (fc X Y Z f).1) (e := e) (n := n) (by omega) hL hs h1 (j - i - 1) i
      rw [show i + (j - i - 1) + 1 = j by omega] at this
      exact this
    refine ⟨fun i hi => ⟨⟨?_, ?_⟩, h2⟩, fun i j hij hj => ?_⟩
    · by_cases h0 : i = 0
      · subst h0; rw [p0]; omega
      · have := hmono 0 i (by omega); rw [p0] at this; omega
    · by_cases h0 : i = n - 1
      · subst h0; rw [pn]; omega
      · have := hmono i (n - 1) (by omega); rw [pn] at this; omega
    · have := hmono i j hij
      rw [show pos (fc X Y Z f).1 e n i - pos (fc X Y Z f).1 e n j = -(pos (fc X Y Z f).1 e n j - pos (fc X Y Z f).1 e n i) by omega, Int.neg_mul_neg, sq_le (by omega) (by omega)]
      omega
theorem hd_down {X Y Z f e s : Int} (hZ : Sz X Y Z) (hf : 0 ≤ f ∧ f ≤ 5) (he : 0 ≤ e ∧ e ≤ 10000) (hs : 1 ≤ s) {n : Nat} (hn : 1 ≤ n ∧ n + 1 ≤ 16) (h : hd X Y Z f e s (n + 1) = true) : hd X Y Z f e s n = true := by
  rw [hd_2 hZ hf he hs (by omega)] at h
  obtain ⟨h1, h2, h3⟩ := h
  by_cases h4 : n = 1
  · subst h4
    rw [hd_iff hZ hf he hs (by omega)]
    refine ⟨fun i hi => ⟨?_, h3⟩, fun i j h1 h2 => by omega⟩
    unfold pos
    rw [if_pos (by omega)]
    have hb := fc_bounds hZ f
    omega
  · rw [hd_2 hZ hf he hs (by omega)]
    refine ⟨h1, Int.le_trans h2 ?_, h3⟩
    rw [Int.le_ediv_iff_mul_le (by omega)]
    have q := Int.ediv_mul_le ((fc X Y Z f).1 - e - e) (show (((n + 1 : Nat) : Int) - 1) ≠ 0 by omega)
    have q0 : 0 ≤ ((fc X Y Z f).1 - e - e) / (((n + 1 : Nat) : Int) - 1) := Int.ediv_nonneg h1 (by omega)
    have := Int.mul_le_mul_of_nonneg_left (show (n : Int) - 1 ≤ ((n + 1 : Nat) : Int) - 1 by omega) q0
    omega
theorem ms_spec {X Y Z f e s : Int} (hZ : Sz X Y Z) (hf : 0 ≤ f ∧ f ≤ 5) (he : 0 ≤ e ∧ e ≤ 10000) (hs : 1 ≤ s) : ∀ n, n ≤ 16 → ms X Y Z f e s n ≤ n ∧ ∀ i, 1 ≤ i → i ≤ n → (hd X Y Z f e s i = true ↔ i ≤ ms X Y Z f e s n) := by
  have down : ∀ d i, 1 ≤ i → i + d ≤ 16 → hd X Y Z f e s (i + d) = true → hd X Y Z f e s i = true := by
    intro d
    induction d with
    | zero => intro i _ _ h; exact h
    | succ d ih => intro i h1 h2 h; exact ih i h1 (by omega) (hd_down hZ hf he hs (by omega) h)
  intro n
  induction n with
  | zero => intro _; exact ⟨Nat.le_refl _, fun i h1 h2 => by omega⟩
  | succ n ih =>
    intro hn
    obtain ⟨h1, h2⟩ := ih (by omega)
    simp only [ms]
    by_cases h : hd X Y Z f e s (n + 1) = true
    · rw [if_pos h]
      refine ⟨Nat.le_refl _, fun i h3 h4 => ⟨fun _ => h4, fun _ => ?_⟩⟩
      have := down (n + 1 - i) i h3 (by omega)
      rw [show i + (n + 1 - i) = n + 1 by omega] at this
      exact this h
    · rw [if_neg h]
      refine ⟨by omega, fun i h3 h4 => ?_⟩
      by_cases h5 : i = n + 1
      · subst h5; constructor
        · intro q; exact absurd q h
        · intro q; omega
      · exact h2 i h3 (by omega)
theorem rw_get (X Y Z f e : Int) (n i : Nat) (h : i < n) : rd_T54 (rw_ X Y Z f e n) i = an X Y Z f e n i := by
  rw [rd_get _ _ (by rw [rw_len]; exact h)]; simp [rw_]
theorem keep1 (X Y Z f e s b : Int) (hO : Ok X Y Z f e s b) (m : Int) (n : Nat) (hn : 1 ≤ n ∧ n ≤ 16) (hh : hd X Y Z f e s n = true) (R : Option Bool) (B : Nat)
    (hR : ∀ k, B ≤ k → gangsawlaw44_AnchorKeeps.l0 k f m ((n : Int) + 1) X Y Z e s b = R) : ∀ (d i k : Nat), i + d = n → 1 ≤ i → d + B < k → gangsawlaw44_AnchorKeeps.l1 k f m n (rw_ X Y Z f e n) i X Y Z e s b = R := by
  obtain ⟨hZ, hf, hr⟩ := hO
  have hb := fc_bounds hZ f
  unfold Po at hr
  intro d
  induction d with
  | zero =>
    intro i k h1 h2 hk
    obtain ⟨k, rfl⟩ : ∃ q, k = q + 1 := ⟨k - 1, by omega⟩
    simp only [gangsawlaw44_AnchorKeeps.l1]
    rw [if_neg (by omega), wr (by omega), hR k (by omega)]
  | succ d ih =>
    intro i k h1 h2 hk
    obtain ⟨k, rfl⟩ : ∃ q, k = q + 1 := ⟨k - 1, by omega⟩
    simp only [gangsawlaw44_AnchorKeeps.l1]
    have h3 := (hd_2 hZ hf (by omega) (by omega) (by omega)).1 hh
    have h4 := pos_mono (w := (fc X Y Z f).1) (e := e) (n := n) (by omega) h3.1 (show 1 ≤ s by omega) h3.2.1 0 (i - 1)
    rw [show i - 1 + 0 + 1 = i by omega] at h4
    have h5 := ((hd_iff hZ hf (by omega) (by omega) hn).1 hh).1
    have h6 := h5 i (by omega)
    have h7 := h5 (i - 1) (by omega)
    rw [rw_len, wr (x := (i : Int) - 1) (by omega), show (i : Int) - 1 = ((i - 1 : Nat) : Int) by omega, if_pos (by omega), if_pos (by omega), if_pos (by omega), if_pos (by omega), if_pos (by omega), rw_get _ _ _ _ _ _ _ (by omega), rw_get _ _ _ _ _ _ _ (by omega)]
    have e0 := rw_get X Y Z f e n 0 (by omega)
    rw [show ((0 : Nat) : Int) = 0 from rfl] at e0
    rw [e0]
    simp only [an]
    rw [wr (x := pos _ _ _ _ - pos _ _ _ _) (by omega), if_neg (by omega), if_pos (by omega), if_pos trivial, wr (by omega)]
    have := ih (i + 1) k (by omega) (by omega) (by omega)
    rw [show ((i + 1 : Nat) : Int) = (i : Int) + 1 by omega] at this
    exact this
theorem keep0 (X Y Z f e s b : Int) (hO : Ok X Y Z f e s b) : ∀ (d n k : Nat), n + d = 17 → 1 ≤ n → d * 20 + 1600 < k → gangsawlaw44_AnchorKeeps.l0 k f (ms X Y Z f e s 16 : Int) n X Y Z e s b = some true := by
  have hO' := hO
  obtain ⟨hZ, hf, hr⟩ := hO'
  have hr' := hr
  unfold Po at hr'
  obtain ⟨m1, m2⟩ := ms_spec hZ hf (e := e) (s := s) (by omega) (by omega) 16 (by omega)
  intro d
  induction d with
  | zero =>
    intro n k h1 h2 hk
    obtain ⟨k, rfl⟩ : ∃ q, k = q + 1 := ⟨k - 1, by omega⟩
    simp only [gangsawlaw44_AnchorKeeps.l0]
    rw [if_neg (by omega), aw (by omega)]
    simp only [Option.bind_some, if_true]
    rw [if_pos (by omega)]
    simp; omega
  | succ d ih =>
    intro n k h1 h2 hk
    obtain ⟨k, rfl⟩ : ∃ q, k = q + 1 := ⟨k - 1, by omega⟩
    simp only [gangsawlaw44_AnchorKeeps.l0]
    have ihn := fun k hk => ih (n + 1) k (by omega) (by omega) hk
    rw [show ((n + 1 : Nat) : Int) = (n : Int) + 1 by omega] at ihn
    rw [if_pos (by omega), Row_k _ _ _ _ _ _ _ _ (by omega), if_neg (by simp [hO]; omega), Int.toNat_natCast]
    simp only [Option.bind_some]
    by_cases h : n ≤ ms X Y Z f e s 16
    · have hh := (m2 n (by omega) (by omega)).2 h
      rw [if_neg (by omega), if_pos hh]
      simp only [if_true]
      rw [if_pos (by rw [rw_len]), Check_k _ _ _ _ _ _ _ (by omega), (ck_row hZ hr n).2 hh]
      obtain ⟨k, rfl⟩ : ∃ q, k = q + 1 := ⟨k - 1, by omega⟩
      simp only [Option.bind_some, bne_self_eq_false, gangsawlaw44_AnchorKeeps.j1, Bool.false_eq_true, if_false]
      obtain ⟨B, hB⟩ : ∃ B, B = d * 20 + 1601 := ⟨_, rfl⟩
      have := keep1 X Y Z f e s b hO (ms X Y Z f e s 16 : Int) n (by omega) hh (some true) B (fun k hk => ihn k (by omega)) (n - 1) 1 k (by omega) (by omega) (by omega)
      rw [show ((1 : Nat) : Int) = 1 from rfl] at this
      exact this
    · have hh : ¬ hd X Y Z f e s n = true := fun q => h ((m2 n (by omega) (by omega)).1 q)
      rw [if_pos (by omega), if_neg hh]
      simp only [if_true]
      rw [wr (by omega)]
      exact ihn k (by omega)
theorem AnchorKeeps : gangsawlaw44_AnchorKeeps.Pure := by
  intro X Y Z f e s b g1 g2 g3
  refine ⟨2003, ?_⟩
  unfold gangsawlaw44_AnchorKeeps.f
  rw [Most_k _ _ _ _ _ _ _ (by omega), aw (by omega)]
  simp only [Option.bind_some]
  by_cases h : Ok X Y Z f e s b
  · rw [if_pos h]
    simp only [if_true]
    exact keep0 X Y Z f e s b h 16 1 2003 (by omega) (by omega) (by omega)
  · rw [if_neg h]; rfl
end Go.Proofs.Ytmmmmgdafifpiaa.Pure
