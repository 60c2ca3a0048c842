import Derived.Test.YtaainbbkengjfaaMb
import Derived.Test.YtaainbbkengjfaaXAx11
namespace Go.Proofs.Ytaainbbkengjfaa.XA
set_option linter.unusedVariables false
set_option linter.unusedSimpArgs false
open Go.RowKit Go.Proofs.Ytaainbbkengjfaa.Opens Go.Proofs.YtaainbbkengjfaaW.PrintWords Go.Proofs.YtaainbbkengjfaaW.PrintLast Go.Proofs.YtaainbbkengjfaaW.PrintMore
def lv (r x s : Int) : Int := s * r + mn s x
def st (r x g w l i : Int) : S66 := ⟨⟨i * g, 0, lv r x i⟩, ⟨(i + 1) * g + l, w, lv r x (i + 1)⟩⟩
def stl (r x g w l : Int) (n : Nat) : List S66 := (List.range n).map fun (j : Nat) => st r x g w l (j : Int)
theorem stl_length (r x g w l : Int) (n : Nat) : (stl r x g w l n).length = n := by simp [stl]
theorem stl_succ (r x g w l : Int) (n : Nat) : stl r x g w l (n + 1) = stl r x g w l n ++ [st r x g w l n] := by simp [stl, List.range_succ]
theorem stl_at (r x g w l : Int) (n : Nat) (i : Int) (h0 : 0 ≤ i) (h1 : i < n) : rd_T66 (stl r x g w l n) i = st r x g w l i := by
  unfold rd_T66 stl
  rw [List.getD_eq_getElem?_getD, List.getElem?_map, List.getElem?_range (by omega)]
  simp [Int.toNat_of_nonneg h0]
theorem stones0 (n r x g w l : Int) (h : V n r x g w l) : ∀ (m : Nat) (i : Nat) (k : Nat), (i : Int) + m = n → m < k →
    stair_Stones.l0 k (stl r x g w l i) n i n r x g w l = some (stl r x g w l n.toNat, 0) := by
  have hV := h
  unfold V at hV
  intro m
  induction m with
  | zero =>
    intro i k hm hk
    obtain ⟨k, rfl⟩ : ∃ q, k = q + 1 := ⟨k - 1, by omega⟩
    simp only [stair_Stones.l0]
    rw [if_neg (by omega), show i = n.toNat by omega]
  | succ m ih =>
    intro i k hm hk
    obtain ⟨k, rfl⟩ : ∃ q, k = q + 1 := ⟨k - 1, by omega⟩
    have hml := mul_lim (a := i) (b := g) (by omega) (by omega) (by omega) (by omega)
    have hml2 := mul_lim (a := (i : Int) + 1) (b := g) (by omega) (by omega) (by omega) (by omega)
    simp only [stair_Stones.l0]
    rw [if_pos (by omega), wr (x := (i : Int) + 1) (by omega), level_f _ _ _ _ _ _ _ h (by omega) (by omega), level_f _ _ _ _ _ _ _ h (by omega) (by omega)]
    simp only [Option.bind_some]
    rw [if_pos (by rw [stl_length]; omega), wr (x := (i : Int) * g) (by omega), wr (x := ((i : Int) + 1) * g) (by omega), wr (x := ((i : Int) + 1) * g + l) (by omega)]
    have := ih (i + 1) k (by omega) (by omega)
    rw [stl_succ] at this
    exact this
theorem stones_f (n r x g w l : Int) (h : V n r x g w l) (j : Nat) : stair_Stones.f (100 + j) n r x g w l = some (stl r x g w l n.toNat, 0) := by
  have hV := h
  unfold V at hV
  unfold stair_Stones.f
  rw [valid_f, decide_eq_true h]
  simp only [Option.bind_some, if_true]
  have h1 := stones0 n r x g w l h n.toNat 0 (100 + j) (by omega) (by omega)
  exact h1
theorem stones_no (n r x g w l : Int) (h : ¬ V n r x g w l) (k : Nat) : stair_Stones.f k n r x g w l = some ([], 1) := by
  unfold stair_Stones.f
  rw [valid_f, decide_eq_false h]
  rfl
theorem spread_f (n r x g w l t : Int) (h : V n r x g w l) : stair_Spread.f n r x g w l t = some (if 0 ≤ t ∧ t ≤ 1000 then (n * r + x - n * t, n * r + x + n * t, 0) else (0, 0, 6)) := by
  have hV := h
  unfold V at hV
  have h1 := mul_lim (a := n) (b := r) (by omega) (by omega) (by omega) (by omega)
  unfold stair_Spread.f
  rw [height_f _ _ _ _ _ _ h]
  simp only [Option.bind_some, if_true, in_f]
  by_cases q : 0 ≤ t ∧ t ≤ 1000
  · have h2 := mul_lim (a := n) (b := t) (by omega) (by omega) (by omega) (by omega)
    simp only [q, decide_true, if_true, and_self]
    rw [wr (x := n * t) (by omega), wr (by omega), wr (by omega)]
  · simp only [q, decide_false, Bool.false_eq_true, if_false]
theorem spread_no (n r x g w l t : Int) (h : ¬ V n r x g w l) : stair_Spread.f n r x g w l t = some (0, 0, 1) := by
  unfold stair_Spread.f
  rw [height_no _ _ _ _ _ _ h]
  rfl
end Go.Proofs.Ytaainbbkengjfaa.XA
