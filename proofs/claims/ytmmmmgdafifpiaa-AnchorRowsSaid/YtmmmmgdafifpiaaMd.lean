import Derived.Test.YtmmmmgdafifpiaaXAx0
import Derived.Test.YtmmmmgdafifpiaaXAx7
import Derived.Test.YtmmmmgdafifpiaaXAx8
import Derived.Test.YtmmmmgdafifpiaaXAx11
import Derived.Test.YtmmmmgdafifpiaaXAx12
import Derived.Test.YtmmmmgdafifpiaaXAx13
import Derived.Test.YtmmmmgdafifpiaaXAx14
import Derived.Test.YtmmmmgdafifpiaaXAx21
import Derived.Test.YtmmmmgdafifpiaaXAx22
import Derived.Test.YtmmmmgdafifpiaaXAx25
import Derived.Test.YtmmmmgdafifpiaaMc
namespace Go.Proofs.Ytmmmmgdafifpiaa.XA
open Go.RowKit Go.Proofs.Ytmmmmgdafifpiaa.Opens Go.Proofs.YtmmmmgdafifpiaaW.PrintWords Go.Proofs.YtmmmmgdafifpiaaW.PrintLast Go.Proofs.YtmmmmgdafifpiaaW.PrintMore
set_option linter.unusedVariables false
set_option linter.unusedSimpArgs false
theorem floor_eq (x d : Int) (hd : 0 < d) : (if Int.tmod x d < 0 then Int.tdiv x d - 1 else Int.tdiv x d) = x / d := by
  have h1 := Int.mul_tdiv_add_tmod x d
  have h2 := Int.tmod_lt_of_pos x hd
  have h3 : -d < Int.tmod x d := Int.lt_tmod_of_pos x hd
  split
  · exact (((Int.ediv_emod_unique hd).2 ⟨by rw [Int.mul_sub]; omega, by omega, by omega⟩ : x / d = Int.tdiv x d - 1 ∧ x % d = Int.tmod x d + d).1).symm
  · exact (((Int.ediv_emod_unique hd).2 ⟨by omega, by omega, by omega⟩ : x / d = Int.tdiv x d ∧ x % d = Int.tmod x d).1).symm
/-- The place of anchor i in a row of n. -/
def pos (w e n i : Int) : Int := if n = 1 then w / 2 else e + (w - e - e) * i / (n - 1)
def an (X Y Z f e n : Int) (i : Nat) : S54 := ⟨f, ⟨pos (fc X Y Z f).1 e n i, (fc X Y Z f).2 / 2⟩, e⟩
def rw_ (X Y Z f e : Int) (n : Nat) : List S54 := (List.range n).map (an X Y Z f e n)
theorem pr_b {a i : Int} (ha : -20000 ≤ a ∧ a ≤ 1000000) (hi : 0 ≤ i ∧ i ≤ 15) : -300000 ≤ a * i ∧ a * i ≤ 15000000 := by
  rcases Int.le_total 0 a with h | h
  · have := Int.mul_le_mul ha.2 hi.2 hi.1 (by omega); have := Int.mul_nonneg h hi.1; omega
  · have := Int.mul_le_mul (a := -a) (b := i) (c := 20000) (d := 15) (by omega) hi.2 hi.1 (by omega)
    have h2 := Int.mul_nonneg (a := -a) (b := i) (by omega) hi.1
    rw [Int.neg_mul] at this h2; omega
theorem div_b {x d : Int} (hx : -300000 ≤ x ∧ x ≤ 15000000) (hd : 1 ≤ d) : -300000 ≤ x / d ∧ x / d ≤ 15000000 := by
  constructor
  · rw [Int.le_ediv_iff_mul_le (by omega)]
    have := Int.mul_le_mul_of_nonpos_left (a := -300000) (b := d) (c := 1) (by omega) (by omega); omega
  · rcases Int.le_total 0 x with h | h
    · have := Int.ediv_le_self d h; omega
    · have := Int.ediv_le_ediv (c := d) (by omega) h
      rw [Int.zero_ediv] at this; omega
theorem row1_f (w e n : Int) (i : Nat) (hw : 1 ≤ w ∧ w ≤ 1000000) (he : 0 ≤ e ∧ e ≤ 10000) (hn : 1 ≤ n ∧ n ≤ 16) (hi : (i : Int) < n) :
    anchor_row_1.f i n w (wrap64 (w - e)) e = some (pos w e n i) := by
  unfold anchor_row_1.f pos
  by_cases h1 : n = 1
  · rw [if_pos h1, if_pos h1, Int.tdiv_eq_ediv_of_nonneg (by omega), wr (by omega)]
  · have hp := pr_b (a := w - e - e) (i := i) (by omega) (by omega)
    have hq := div_b hp (d := n - 1) (by omega)
    have hf := floor_eq ((w - e - e) * i) (n - 1) (by omega)
    have h2 := Int.mul_tdiv_add_tmod ((w - e - e) * i) (n - 1)
    rw [if_neg h1, if_neg h1, wr (x := n - 1) (by omega), if_neg (by omega), wr (x := w - e) (by omega), wr (x := w - e - e) (by omega), wr (x := (w - e - e) * i) (by omega)]
    split
    · rename_i h3
      rw [if_pos h3] at hf
      rw [wr (x := Int.tdiv _ _) (by omega), hf, wr (x := _ / _) (by omega), wr (by omega)]
    · rename_i h3
      rw [if_neg h3] at hf
      rw [hf, wr (x := _ / _) (by omega), wr (by omega)]
theorem row0 (X Y Z f e s b : Int) (hZ : Sz X Y Z) (he : 0 ≤ e ∧ e ≤ 10000) (n : Nat) (hn : 1 ≤ n ∧ n ≤ 16) : ∀ (m i k : Nat), i + m = n → m < k →
    anchor_row.l0 k f (fc X Y Z f).2 ((List.range i).map (an X Y Z f e n)) n i n e s b (fc X Y Z f).1 e (wrap64 ((fc X Y Z f).1 - e)) = some (rw_ X Y Z f e n) := by
  have hb := fc_bounds hZ f
  intro m
  induction m with
  | zero =>
    intro i k hm hk
    obtain ⟨k, rfl⟩ : ∃ q, k = q + 1 := ⟨k - 1, by omega⟩
    simp only [anchor_row.l0]
    rw [if_neg (by omega), show i = n by omega]; rfl
  | succ m ih =>
    intro i k hm hk
    obtain ⟨k, rfl⟩ : ∃ q, k = q + 1 := ⟨k - 1, by omega⟩
    simp only [anchor_row.l0]
    rw [if_pos (by omega), row1_f _ _ _ _ (by omega) he (by omega) (by omega)]
    simp only [Option.bind_some]
    rw [if_pos (by simp; omega), wr (x := (i : Int) + 1) (by omega), Int.tdiv_eq_ediv_of_nonneg (by omega), wr (x := _ / 2) (by omega)]
    have := ih (i + 1) k (by omega) (by omega)
    rw [List.range_succ, List.map_append, show ((i + 1 : Nat) : Int) = (i : Int) + 1 by omega] at this
    exact this
theorem row_k {X Y Z f e s b : Int} (hZ : Sz X Y Z) (hr : Po e s b) {n : Nat} (hn : 1 ≤ n ∧ n ≤ 16) {k : Nat} (hk : 20 ≤ k) : anchor_row.f k X Y Z f n e s b = some (rw_ X Y Z f e n) := by
  unfold Po at hr
  unfold anchor_row.f
  rw [face_f]
  simp only [Option.bind_some]
  exact row0 X Y Z f e s b hZ (by omega) n hn n 0 k (by omega) (by omega)
theorem rrow0 (X Y Z f e s b : Int) (hZ : Sz X Y Z) (he : 0 ≤ e ∧ e ≤ 10000) (n : Nat) (hn : 2 ≤ n ∧ n ≤ 16) : ∀ (m i k : Nat), i + m = n → m < k →
    gangsawref44_Row.l0 k f n (fc X Y Z f).2 ((List.range i).map (an X Y Z f e n)) e (wrap64 ((fc X Y Z f).1 - e)) i e s b = some (rw_ X Y Z f e n) := by
  have hb := fc_bounds hZ f
  intro m
  induction m with
  | zero =>
    intro i k hm hk
    obtain ⟨k, rfl⟩ : ∃ q, k = q + 1 := ⟨k - 1, by omega⟩
    simp only [gangsawref44_Row.l0]
    rw [if_neg (by omega), show i = n by omega]; rfl
  | succ m ih =>
    intro i k hm hk
    obtain ⟨k, rfl⟩ : ∃ q, k = q + 1 := ⟨k - 1, by omega⟩
    simp only [gangsawref44_Row.l0]
    have hp := pr_b (a := (fc X Y Z f).1 - e - e) (i := i) (by omega) (by omega)
    have hq := div_b hp (d := (n : Int) - 1) (by omega)
    have hf := floor_eq (((fc X Y Z f).1 - e - e) * i) ((n : Int) - 1) (by omega)
    have e1 : gangsawref44_floor.f (((fc X Y Z f).1 - e - e) * i) ((n : Int) - 1) = some (((fc X Y Z f).1 - e - e) * i / ((n : Int) - 1)) := by
      unfold gangsawref44_floor.f
      rw [if_neg (by omega)]
      split
      · rename_i h3
        rw [if_pos h3] at hf
        rw [wr (x := Int.tdiv _ _) (by omega), hf, wr (by omega)]
      · rename_i h3
        rw [if_neg h3] at hf
        rw [hf, wr (by omega)]
    have e2 : an X Y Z f e n i = ⟨f, ⟨e + ((fc X Y Z f).1 - e - e) * i / ((n : Int) - 1), (fc X Y Z f).2 / 2⟩, e⟩ := by
      unfold an pos; rw [if_neg (by omega)]
    rw [if_pos (by omega), wr (x := (fc X Y Z f).1 - e) (by omega), wr (x := (fc X Y Z f).1 - e - e) (by omega), wr (x := _ * (i : Int)) (by omega), wr (x := (n : Int) - 1) (by omega), e1]
    simp only [Option.bind_some]
    rw [if_pos (by simp; omega), wr (x := (i : Int) + 1) (by omega), Int.tdiv_eq_ediv_of_nonneg (by omega), wr (x := _ / 2) (by omega), wr (x := e + _) (by omega)]
    have := ih (i + 1) k (by omega) (by omega)
    rw [List.range_succ, List.map_append, show ((i + 1 : Nat) : Int) = (i : Int) + 1 by omega, wr (x := (fc X Y Z f).1 - e) (by omega), List.map_cons, e2] at this
    exact this
theorem rrow_k {X Y Z f e s b : Int} (hZ : Sz X Y Z) (hr : Po e s b) {n : Nat} (hn : 1 ≤ n ∧ n ≤ 16) {k : Nat} (hk : 20 ≤ k) : gangsawref44_Row.f k X Y Z f n e s b = some (rw_ X Y Z f e n) := by
  have hb := fc_bounds hZ f
  unfold Po at hr
  unfold gangsawref44_Row.f
  rw [rface_f]
  simp only [Option.bind_some]
  by_cases h : (n : Int) = 1
  · rw [if_pos h, Int.tdiv_eq_ediv_of_nonneg (by omega), Int.tdiv_eq_ediv_of_nonneg (by omega), wr (by omega), wr (by omega)]
    have : n = 1 := by omega
    subst this
    rfl
  · rw [if_neg h]
    exact rrow0 X Y Z f e s b hZ (by omega) n (by omega) n 0 k (by omega) (by omega)
theorem rw_len (X Y Z f e : Int) (n : Nat) : (rw_ X Y Z f e n).length = n := by simp [rw_]
/-- The row of n anchors keeps the rule. -/
def hd (X Y Z f e s : Int) (n : Nat) : Bool := decide (pl X Y Z (rw_ X Y Z f e n) = 0 ∧ kp X Y Z e s (rw_ X Y Z f e n) = 0)
theorem holds_k {X Y Z f e s b : Int} (hZ : Sz X Y Z) (hr : Po e s b) {n : Nat} (hn : 1 ≤ n ∧ n ≤ 16) {k : Nat} (hk : 1300 ≤ k) : anchor_holds.f k X Y Z f n e s b = some (hd X Y Z f e s n) := by
  unfold anchor_holds.f hd
  rw [row_k hZ hr hn (by omega)]
  simp only [Option.bind_some]
  rw [placed_k _ _ _ _ (by omega)]
  simp only [Option.bind_some]
  by_cases h : pl X Y Z (rw_ X Y Z f e n) = 0
  · rw [if_pos h, keeps_k hZ h hr (by omega)]
    simp only [Option.bind_some, h, true_and, Option.some.injEq]
    by_cases h2 : kp X Y Z e s (rw_ X Y Z f e n) = 0 <;> simp [h2]
  · rw [if_neg h]; simp [h]
theorem ck_row {X Y Z f e s b : Int} (hZ : Sz X Y Z) (hr : Po e s b) (n : Nat) : ck X Y Z e s b (rw_ X Y Z f e n) = 0 ↔ hd X Y Z f e s n = true := by
  rw [ck_zero]; unfold hd; simp [hZ, hr]
/-- The greatest number up to n of a row that keeps the rule. -/
def ms (X Y Z f e s : Int) : Nat → Nat
  | 0 => 0
  | n + 1 => if hd X Y Z f e s (n + 1) then n + 1 else ms X Y Z f e s n
theorem most0 {X Y Z f e s b : Int} (hZ : Sz X Y Z) (hr : Po e s b) : ∀ (n k : Nat), n ≤ 16 → n + 1310 ≤ k → anchor_Most.l0 k f n X Y Z e s b = some ((ms X Y Z f e s n : Int), 0) := by
  intro n
  induction n with
  | zero =>
    intro k hn hk
    obtain ⟨k, rfl⟩ : ∃ q, k = q + 1 := ⟨k - 1, by omega⟩
    simp only [anchor_Most.l0]
    rw [if_neg (by omega)]; rfl
  | succ n ih =>
    intro k hn hk
    obtain ⟨k, rfl⟩ : ∃ q, k = q + 1 := ⟨k - 1, by omega⟩
    simp only [anchor_Most.l0]
    rw [if_pos (by omega), holds_k hZ hr (by omega) (by omega), wr (by omega), show ((n + 1 : Nat) : Int) - 1 = n by omega, ih k (by omega) (by omega)]
    simp only [Option.bind_some, ms]
    split <;> simp_all
theorem rmost0 {X Y Z f e s b : Int} (hZ : Sz X Y Z) (hr : Po e s b) : ∀ (n k : Nat), n ≤ 16 → n + 1310 ≤ k → gangsawref44_Most.l0 k f n X Y Z e s b = some (ms X Y Z f e s n : Int) := by
  intro n
  induction n with
  | zero =>
    intro k hn hk
    obtain ⟨k, rfl⟩ : ∃ q, k = q + 1 := ⟨k - 1, by omega⟩
    simp only [gangsawref44_Most.l0]
    rw [if_neg (by omega)]; rfl
  | succ n ih =>
    intro k hn hk
    obtain ⟨k, rfl⟩ : ∃ q, k = q + 1 := ⟨k - 1, by omega⟩
    simp only [gangsawref44_Most.l0]
    rw [if_pos (by omega), rrow_k hZ hr (by omega) (by omega)]
    simp only [Option.bind_some]
    rw [rcheck_k _ _ _ _ _ _ _ (by omega), wr (by omega), show ((n + 1 : Nat) : Int) - 1 = n by omega, ih k (by omega) (by omega)]
    simp only [Option.bind_some, ck_row hZ hr, ms]
    split <;> simp_all
/-- Size, face and rule are possible. -/
def Ok (X Y Z f e s b : Int) : Prop := Sz X Y Z ∧ (0 ≤ f ∧ f ≤ 5) ∧ Po e s b
instance (X Y Z f e s b : Int) : Decidable (Ok X Y Z f e s b) := by unfold Ok; infer_instance
theorem Most_k (X Y Z f e s b : Int) {k : Nat} (hk : 1400 ≤ k) : anchor_Most.f k X Y Z f e s b = some (if Ok X Y Z f e s b then ((ms X Y Z f e s 16 : Int), 0) else (0, 1)) := by
  obtain ⟨k, rfl⟩ : ∃ q, k = q + 1 := ⟨k - 1, by omega⟩
  unfold anchor_Most.f Ok
  simp only [sized_f, in_f, possible_f, Option.bind_some, anchor_Most.j0]
  by_cases h1 : Sz X Y Z
  · by_cases h2 : 0 ≤ f ∧ f ≤ 5
    · by_cases h3 : Po e s b
      · have := most0 (f := f) h1 h3 16 k (by omega) (by omega)
        rw [show ((16 : Nat) : Int) = 16 from rfl] at this
        simp [h1, h2, h3, this]
      · simp [h1, h2, h3]
    · simp [h1, h2]
  · simp [h1]
theorem rMost_k {X Y Z f e s b : Int} (h : Ok X Y Z f e s b) {k : Nat} (hk : 1400 ≤ k) : gangsawref44_Most.f k X Y Z f e s b = some (ms X Y Z f e s 16 : Int) := by
  unfold gangsawref44_Most.f
  exact rmost0 h.1 h.2.2 16 k (by omega) (by omega)
theorem Row_k (X Y Z f n e s b : Int) {k : Nat} (hk : 1400 ≤ k) : anchor_Row.f k X Y Z f n e s b = some (if ¬ (Ok X Y Z f e s b ∧ 1 ≤ n ∧ n ≤ 16) then ([], 1) else if hd X Y Z f e s n.toNat then (rw_ X Y Z f e n.toNat, 0) else ([], 9)) := by
  obtain ⟨k, rfl⟩ : ∃ q, k = q + 1 := ⟨k - 1, by omega⟩
  unfold anchor_Row.f Ok
  simp only [sized_f, in_f, possible_f, Option.bind_some, anchor_Row.j0]
  by_cases h1 : Sz X Y Z
  · by_cases h2 : 0 ≤ f ∧ f ≤ 5
    · by_cases h3 : Po e s b
      · by_cases h4 : 1 ≤ n ∧ n ≤ 16
        · have e1 := holds_k (f := f) h1 h3 (n := n.toNat) (by omega) (k := k) (by omega)
          have e2 := row_k (f := f) h1 h3 (n := n.toNat) (by omega) (k := k) (by omega)
          rw [show ((n.toNat : Nat) : Int) = n by omega] at e1 e2
          simp only [h1, h2, h3, h4, e1, e2, decide_true, if_true, Bool.not_true, Bool.false_eq_true, if_false, not_true, and_self, Option.bind_some]
          split <;> simp_all
        · simp [h1, h2, h3, h4]
      · simp [h1, h2, h3]
    · simp [h1, h2]
  · simp [h1]
theorem same0 (xs : List S54) (hl : xs.length ≤ 40) : ∀ (m i k : Nat), i + m = xs.length → m < k → gangsawref44_Same.l0 k xs xs i = some true := by
  intro m
  induction m with
  | zero =>
    intro i k hm hk
    obtain ⟨k, rfl⟩ : ∃ q, k = q + 1 := ⟨k - 1, by omega⟩
    simp only [gangsawref44_Same.l0]
    rw [if_neg (by omega)]
  | succ m ih =>
    intro i k hm hk
    obtain ⟨k, rfl⟩ : ∃ q, k = q + 1 := ⟨k - 1, by omega⟩
    have := ih (i + 1) k (by omega) (by omega)
    rw [show ((i + 1 : Nat) : Int) = (i : Int) + 1 by omega] at this
    simp only [gangsawref44_Same.l0]
    rw [if_pos (by omega), if_pos (by omega), if_pos (by omega), wr (by omega), this]
    simp
theorem same_k {xs : List S54} (hl : xs.length ≤ 40) {k : Nat} (hk : 50 ≤ k) : gangsawref44_Same.f k xs xs = some true := by
  unfold gangsawref44_Same.f
  rw [if_pos rfl]
  exact same0 xs hl xs.length 0 k (by omega) (by omega)
end Go.Proofs.Ytmmmmgdafifpiaa.XA
