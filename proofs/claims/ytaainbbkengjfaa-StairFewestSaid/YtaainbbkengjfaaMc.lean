import Derived.Test.YtaainbbkengjfaaMb
import Derived.Test.YtaainbbkengjfaaXAx10
namespace Go.Proofs.Ytaainbbkengjfaa.XA
set_option linter.unusedVariables false
set_option linter.unusedSimpArgs false
open Go.RowKit Go.Proofs.Ytaainbbkengjfaa.Opens Go.Proofs.YtaainbbkengjfaaW.PrintWords Go.Proofs.YtaainbbkengjfaaW.PrintLast Go.Proofs.YtaainbbkengjfaaW.PrintMore

/-- The going that Plan tries for n rises. -/
def hi (h n : Int) : Int := if 0 < h % n then h / n + 1 else h / n
def gst (d f h len n : Int) : Int := mn (mn d (len / n)) (f - 2 * hi h n)
def ftsAt (a b c d e f h len w l n : Int) : Int := fts a b c d e f n (h / n) (h % n) (gst d f h len n) w l
def pl (d f h len w l n : Int) : Int × Int × Int × Int × Int × Int × Int := (n, h / n, h % n, gst d f h len n, w, l, 0)
theorem div_mod {h n : Int} (hh : 1 ≤ h ∧ h ≤ 640000) (hn : 1 ≤ n) : 0 ≤ h / n ∧ h / n ≤ 640000 ∧ 0 ≤ h % n ∧ h % n ≤ n - 1 ∧ n * (h / n) + h % n = h := by
  have h1 := Int.ediv_nonneg (a := h) (b := n) (by omega) (by omega)
  have h2 := Int.emod_nonneg h (show n ≠ 0 by omega)
  have h3 := Int.emod_lt_of_pos h (show 0 < n by omega)
  have h4 := Int.mul_ediv_add_emod h n
  have h5 := Int.ediv_le_self (a := h) n (by omega)
  omega
/-- A sound going is at most the one that Plan tries, and this one is sound, too. -/
theorem gst_best {a b c d e f h len w l n g : Int} (hc : chk a b c d e f = 0) (hh : 1 ≤ h ∧ h ≤ 640000) (hl : 1 ≤ len ∧ len ≤ 640000) (hn : 1 ≤ n) (hg : g ≤ len / n) (hf : fts a b c d e f n (h / n) (h % n) g w l = 0) :
    g ≤ gst d f h len n ∧ ftsAt a b c d e f h len w l n = 0 := by
  have hd := div_mod hh hn
  unfold ftsAt gst
  unfold fts at hf ⊢
  rw [if_pos hc] at hf ⊢
  have hV : V n (h / n) (h % n) g w l := by
    by_cases q : V n (h / n) (h % n) g w l
    · exact q
    · rw [if_neg q] at hf; omega
  rw [if_pos hV] at hf
  have hk : (a ≤ h / n ∧ h / n ≤ b) ∧ (0 < h % n → h / n + 1 ≤ b) ∧ (c ≤ g ∧ g ≤ d) ∧ e ≤ 2 * (h / n) + g ∧ 2 * (h / n) + g ≤ f ∧ (0 < h % n → 2 * (h / n + 1) + g ≤ f) := by
    unfold kps at hf; grind
  have hd10 : d ≤ 10000 := by unfold chk at hc; grind
  have hgs : g ≤ mn (mn d (len / n)) (f - 2 * hi h n) ∧ mn (mn d (len / n)) (f - 2 * hi h n) ≤ d ∧ mn (mn d (len / n)) (f - 2 * hi h n) ≤ f - 2 * hi h n := by
    unfold hi mn; grind
  generalize mn (mn d (len / n)) (f - 2 * hi h n) = gs at *
  have hV2 : V n (h / n) (h % n) gs w l := by unfold V at hV ⊢; omega
  rw [if_pos hV2]
  refine ⟨hgs.1, ?_⟩
  unfold kps
  unfold hi at hgs
  grind
theorem tdm {h n : Int} (hh : 1 ≤ h ∧ h ≤ 640000) (hn : 1 ≤ n) : wrap64 (Int.tdiv h n) = h / n ∧ Int.tmod h n = h % n := by
  have hd := div_mod hh hn
  rw [Int.tdiv_eq_ediv_of_nonneg (by omega), Int.tmod_eq_emod_of_nonneg (by omega)]
  exact ⟨wr (by omega), rfl⟩
theorem try_f (h n g w l : Int) (hh : 1 ≤ h ∧ h ≤ 640000) (hn : 1 ≤ n) : stair_highest.f n (h / n) (h % n) g w l = some (hi h n) := by
  have hd := div_mod hh hn
  unfold stair_highest.f hi
  rw [wr (by omega)]
  split <;> simp_all
/-- What Plan comes to from n rises on. -/
theorem plan0 (a b c d e f h len w l : Int) (hc : chk a b c d e f = 0) (hh : 1 ≤ h ∧ h ≤ 640000) (hl : 1 ≤ len ∧ len ≤ 640000) :
    ∀ (m : Nat) (n : Int), 1 ≤ n → n + m = 65 →
      (∃ n0, n ≤ n0 ∧ n0 ≤ 64 ∧ ftsAt a b c d e f h len w l n0 = 0 ∧ (∀ n', n ≤ n' → n' < n0 → ftsAt a b c d e f h len w l n' ≠ 0) ∧ Ev (fun k => stair_Plan.l0 k h len w l n a b c d e f) (pl d f h len w l n0)) ∨
      ((∀ n', n ≤ n' → n' ≤ 64 → ftsAt a b c d e f h len w l n' ≠ 0) ∧ Ev (fun k => stair_Plan.l0 k h len w l n a b c d e f) (0, 0, 0, 0, 0, 0, 9)) := by
  intro m
  induction m with
  | zero =>
    intro n hn hm
    refine .inr ⟨fun n' h1 h2 => by omega, 1, fun k hk => ?_⟩
    obtain ⟨k, rfl⟩ : ∃ q, k = q + 1 := ⟨k - 1, by omega⟩
    simp only [stair_Plan.l0]
    rw [if_neg (by omega)]
  | succ m ih =>
    intro n hn hm
    have hd := div_mod hh hn
    have hdl := div_mod hl hn
    have hfb : 1 ≤ f ∧ f ≤ 30000 ∧ 1 ≤ d ∧ d ≤ 10000 := by unfold chk at hc; grind
    have hb : 0 ≤ hi h n ∧ hi h n ≤ 640001 := by unfold hi; split <;> omega
    have one : ∀ k, 200 ≤ k → stair_Plan.l0 (k + 1) h len w l n a b c d e f = if ftsAt a b c d e f h len w l n = 0 then some (pl d f h len w l n) else stair_Plan.l0 k h len w l (n + 1) a b c d e f := by
      intro k hk
      obtain ⟨j, rfl⟩ : ∃ j, k = 200 + j := ⟨k - 200, by omega⟩
      simp only [stair_Plan.l0]
      rw [if_pos (by omega), if_neg (by omega), (tdm hh hn).1, (tdm hh hn).2, (tdm hl hn).1, try_f _ _ _ _ _ hh hn]
      simp only [Option.bind_some]
      rw [wr (x := 2 * hi h n) (by omega), wr (x := f - 2 * hi h n) (by omega), fits_f, wr (x := n + 1) (by omega)]
      rfl
    by_cases h0 : ftsAt a b c d e f h len w l n = 0
    · refine .inl ⟨n, by omega, by omega, h0, fun n' h1 h2 => by omega, 201, fun k hk => ?_⟩
      obtain ⟨k, rfl⟩ : ∃ q, k = q + 1 := ⟨k - 1, by omega⟩
      show stair_Plan.l0 (k + 1) h len w l n a b c d e f = _
      rw [one k (by omega), if_pos h0]
    · have go : ∀ res, Ev (fun k => stair_Plan.l0 k h len w l (n + 1) a b c d e f) res → Ev (fun k => stair_Plan.l0 k h len w l n a b c d e f) res := by
        rintro res ⟨K, hK⟩
        refine ⟨K + 202, fun k hk => ?_⟩
        obtain ⟨k, rfl⟩ : ∃ q, k = q + 1 := ⟨k - 1, by omega⟩
        show stair_Plan.l0 (k + 1) h len w l n a b c d e f = _
        rw [one k (by omega), if_neg h0]
        exact hK k (by omega)
      rcases ih (n + 1) (by omega) (by omega) with ⟨n0, h1, h2, h3, h4, h5⟩ | ⟨h1, h2⟩
      · refine .inl ⟨n0, by omega, h2, h3, fun n' q1 q2 => ?_, go _ h5⟩
        by_cases e1 : n' = n
        · rw [e1]; exact h0
        · exact h4 n' (by omega) q2
      · refine .inr ⟨fun n' q1 q2 => ?_, go _ h2⟩
        by_cases e1 : n' = n
        · rw [e1]; exact h0
        · exact h1 n' (by omega) q2
def inP (h len w l : Int) : Prop := (1 ≤ h ∧ h ≤ 640000) ∧ (1 ≤ len ∧ len ≤ 640000) ∧ (1 ≤ w ∧ w ≤ 10000) ∧ (0 ≤ l ∧ l ≤ 1000)
instance (h len w l : Int) : Decidable (inP h len w l) := by unfold inP; infer_instance
theorem plan_no1 (a b c d e f h len w l : Int) (hc : chk a b c d e f ≠ 0) (j : Nat) : stair_Plan.f (10 + j) a b c d e f h len w l = some (0, 0, 0, 0, 0, 0, chk a b c d e f) := by
  unfold stair_Plan.f
  rw [check_f]
  simp [hc]
theorem plan_no2 (a b c d e f h len w l : Int) (hc : chk a b c d e f = 0) (hp : ¬ inP h len w l) (j : Nat) : stair_Plan.f (10 + j) a b c d e f h len w l = some (0, 0, 0, 0, 0, 0, 6) := by
  unfold stair_Plan.f
  rw [check_f, show 10 + j = (9 + j) + 1 by omega]
  unfold inP at hp
  simp only [hc, Option.bind_some, if_true, in_f, stair_Plan.j0]
  grind
theorem plan_yes (a b c d e f h len w l : Int) (hc : chk a b c d e f = 0) (hp : inP h len w l) :
      (∃ n0, 1 ≤ n0 ∧ n0 ≤ 64 ∧ ftsAt a b c d e f h len w l n0 = 0 ∧ (∀ n', 1 ≤ n' → n' < n0 → ftsAt a b c d e f h len w l n' ≠ 0) ∧ Ev (fun k => stair_Plan.f k a b c d e f h len w l) (pl d f h len w l n0)) ∨
      ((∀ n', 1 ≤ n' → n' ≤ 64 → ftsAt a b c d e f h len w l n' ≠ 0) ∧ Ev (fun k => stair_Plan.f k a b c d e f h len w l) (0, 0, 0, 0, 0, 0, 9)) := by
  have hp' := hp
  unfold inP at hp'
  have go : ∀ res, Ev (fun k => stair_Plan.l0 k h len w l 1 a b c d e f) res → Ev (fun k => stair_Plan.f k a b c d e f h len w l) res := by
    rintro res ⟨K, hK⟩
    refine ⟨K + 20, fun k hk => ?_⟩
    obtain ⟨j, rfl⟩ : ∃ j, k = 10 + j + 1 := ⟨k - 11, by omega⟩
    show stair_Plan.f (10 + j + 1) a b c d e f h len w l = _
    unfold stair_Plan.f
    rw [show 10 + j + 1 = 10 + (j + 1) by omega, check_f, show 10 + (j + 1) = 10 + j + 1 by omega]
    simp only [hc, Option.bind_some, if_true, in_f, stair_Plan.j0, hp', and_self, decide_true, Bool.not_true, Bool.false_eq_true, if_false]
    exact hK (10 + j) (by omega)
  rcases plan0 a b c d e f h len w l hc hp'.1 hp'.2.1 64 1 (by omega) (by omega) with ⟨n0, h1, h2, h3, h4, h5⟩ | ⟨h1, h2⟩
  · exact .inl ⟨n0, h1, h2, h3, h4, go _ h5⟩
  · exact .inr ⟨h1, go _ h2⟩
end Go.Proofs.Ytaainbbkengjfaa.XA
