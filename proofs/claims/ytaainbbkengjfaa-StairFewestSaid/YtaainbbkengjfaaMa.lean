import Derived.Test.YtaainbbkengjfaaXAx12
import Derived.Test.YtaainbbkengjfaaXAx13
namespace Go.Proofs.Ytaainbbkengjfaa.XA
open Go.RowKit Go.Proofs.Ytaainbbkengjfaa.Opens Go.Proofs.YtaainbbkengjfaaW.PrintWords Go.Proofs.YtaainbbkengjfaaW.PrintLast Go.Proofs.YtaainbbkengjfaaW.PrintMore

theorem awake_100 : gangsawlaw42_awake.f 100 = some true := by decide +kernel
#print axioms awake_100
theorem awake_ev (j : Nat) : gangsawlaw42_awake.f (100 + j) = some true := at_rounds (g := gangsawlaw42_awake.f) (fun k => gangsawlaw42_awake.mono k) (Nat.le_add_right _ _) awake_100

theorem in_f (a b c : Int) : stair_in.f a b c = some (decide (b ≤ a ∧ a ≤ c)) := by
  unfold stair_in.f; by_cases h : b ≤ a <;> simp [h]
theorem rin_f (a b c : Int) : gangsawref42_in.f a b c = some (decide (b ≤ a ∧ a ≤ c)) := by
  unfold gangsawref42_in.f; by_cases h : b ≤ a <;> simp [h]
def V (n r x g w l : Int) : Prop := 1 ≤ n ∧ n ≤ 64 ∧ 1 ≤ r ∧ r ≤ 10000 ∧ 1 ≤ g ∧ g ≤ 10000 ∧ 1 ≤ w ∧ w ≤ 10000 ∧ 0 ≤ x ∧ x ≤ n - 1 ∧ 0 ≤ l ∧ l ≤ 1000 ∧ l < g
instance (n r x g w l : Int) : Decidable (V n r x g w l) := by unfold V; infer_instance
theorem valid_f (n r x g w l : Int) : stair_valid.f n r x g w l = some (decide (V n r x g w l)) := by
  by_cases hV : V n r x g w l
  · rw [decide_eq_true hV]
    unfold V at hV
    have e1 : wrap64 (n - 1) = n - 1 := by unfold wrap64; omega
    have e2 : wrap64 (g - 1) = g - 1 := by unfold wrap64; omega
    have e3 : l ≤ mn 1000 (g - 1) := by unfold mn; split <;> omega
    have e4 : n ≠ 0 := by omega
    unfold stair_valid.f
    simp [in_f, e1, e2, e3, e4, hV]
  · rw [decide_eq_false hV]
    unfold stair_valid.f
    simp only [in_f, Option.bind_some]
    repeat' split
    all_goals (try rfl)
    all_goals simp only [Option.some.injEq, decide_eq_false_iff_not]
    rename_i h1 h2 h3 h4 h5 h6
    simp only [decide_eq_true_eq] at h2 h3 h4 h5 h6
    intro h7
    apply hV
    have e1 : wrap64 (n - 1) = n - 1 := by unfold wrap64; omega
    have e2 : wrap64 (g - 1) = g - 1 := by unfold wrap64; omega
    rw [e1] at h6; rw [e2] at h7
    have e3 : mn 1000 (g - 1) ≤ 1000 ∧ mn 1000 (g - 1) ≤ g - 1 := by unfold mn; split <;> omega
    unfold V; omega
theorem rvalid_f (n r x g w l : Int) : gangsawref42_Valid.f n r x g w l = some (decide (V n r x g w l)) := by
  by_cases hV : V n r x g w l
  · rw [decide_eq_true hV]
    unfold V at hV
    have e1 : wrap64 (n - 1) = n - 1 := by unfold wrap64; omega
    unfold gangsawref42_Valid.f
    simp [rin_f, e1, hV]
  · rw [decide_eq_false hV]
    unfold gangsawref42_Valid.f
    simp only [rin_f, Option.bind_some]
    repeat' split
    all_goals (try rfl)
    all_goals simp only [Option.some.injEq, decide_eq_false_iff_not]
    rename_i h1 h2 h3 h4 h5 h6
    simp only [decide_eq_true_eq] at h1 h2 h3 h4 h5 h6
    intro h7
    apply hV
    have e1 : wrap64 (n - 1) = n - 1 := by unfold wrap64; omega
    rw [e1] at h5
    unfold V; omega
end Go.Proofs.Ytaainbbkengjfaa.XA
