import Derived.Test.YtaainbbkengjfaaMc
import Derived.Test.YtaainbbkengjfaaXAx17
namespace Go.Proofs.Ytaainbbkengjfaa.XA
set_option linter.unusedVariables false
set_option linter.unusedSimpArgs false
open Go.RowKit Go.Proofs.Ytaainbbkengjfaa.Opens Go.Proofs.YtaainbbkengjfaaW.PrintWords Go.Proofs.YtaainbbkengjfaaW.PrintLast Go.Proofs.YtaainbbkengjfaaW.PrintMore
/-- One going of the reference's inner loop. -/
theorem rone (a b c d e f h len w l n g : Int) (hc : chk a b c d e f = 0) (hh : 1 ≤ h ∧ h ≤ 640000) (hn : 1 ≤ n ∧ n ≤ 64) (hg : -10 ≤ g ∧ g ≤ 640000) (k : Nat) (hk : 202 ≤ k) :
    gangsawref42_Plan.l1 (k + 1) h len w l n g a b c d e f =
      if g ≥ c then (if V n (h / n) (h % n) g w l then (if kps a b c d e f n (h / n) (h % n) g w l = 0 then some (n, h / n, h % n, g, w, l, 0) else if kps a b c d e f n (h / n) (h % n) g w l = 6 then gangsawref42_Plan.l0 (k - 1) h len w l (n + 1) a b c d e f else gangsawref42_Plan.l1 (k - 1) h len w l n (g - 1) a b c d e f)
        else gangsawref42_Plan.l0 (k - 1) h len w l (n + 1) a b c d e f) else gangsawref42_Plan.l0 k h len w l (n + 1) a b c d e f := by
  obtain ⟨j, rfl⟩ : ∃ j, k = 200 + j + 1 := ⟨k - 201, by omega⟩
  simp only [gangsawref42_Plan.l1]
  rw [(tdm hh hn.1).1, (tdm hh hn.1).2, rvalid_f, wr (x := n + 1) (by omega)]
  by_cases h1 : g ≥ c
  · rw [if_pos h1, if_pos h1, if_neg (by omega)]
    simp only [gangsawref42_Plan.j3, rvalid_f]
    by_cases hV : V n (h / n) (h % n) g w l
    · rw [show 200 + j + 1 = 200 + (j + 1) by omega, keeps_f _ _ _ _ _ _ _ _ _ _ _ _ hV, keeps_f _ _ _ _ _ _ _ _ _ _ _ _ hV, wr (x := g - 1) (by omega), wr (x := n + 1) (by omega)]
      simp only [Option.bind_some, hV, decide_true, if_true, show 200 + (j + 1) - 1 = 200 + j by omega]
      split <;> simp_all
    · simp only [Option.bind_some, hV, decide_false, Bool.false_eq_true, if_false, show 200 + j + 1 - 1 = 200 + j by omega]
      rw [wr (x := n + 1) (by omega)]
  · rw [if_neg h1, if_neg h1]
theorem rplan1 (a b c d e f h len w l n : Int) (hc : chk a b c d e f = 0) (hh : 1 ≤ h ∧ h ≤ 640000) (hl : 1 ≤ len ∧ len ≤ 640000) (hn : 1 ≤ n ∧ n ≤ 64) (res : Int × Int × Int × Int × Int × Int × Int)
    (hr : if ftsAt a b c d e f h len w l n = 0 then res = pl d f h len w l n else Ev (fun k => gangsawref42_Plan.l0 k h len w l (n + 1) a b c d e f) res) :
    ∀ (m : Nat) (g : Int), g = c - 1 + m → g ≤ mn (len / n) d → (ftsAt a b c d e f h len w l n = 0 → gst d f h len n ≤ g) → Ev (fun k => gangsawref42_Plan.l1 k h len w l n g a b c d e f) res := by
  have hcd : 1 ≤ c ∧ c ≤ 10000 ∧ d ≤ 10000 ∧ 1 ≤ f ∧ f ≤ 30000 := by unfold chk at hc; grind
  have hdm := div_mod hh hn.1
  have hdl := div_mod hl hn.1
  have hmn : mn (len / n) d ≤ len / n ∧ mn (len / n) d ≤ d := by unfold mn; grind
  have hgc : ftsAt a b c d e f h len w l n = 0 → c ≤ gst d f h len n ∧ V n (h / n) (h % n) (gst d f h len n) w l ∧ kps a b c d e f n (h / n) (h % n) (gst d f h len n) w l = 0 := by
    intro q
    unfold ftsAt fts at q
    rw [if_pos hc] at q
    by_cases hV : V n (h / n) (h % n) (gst d f h len n) w l
    · rw [if_pos hV] at q
      refine ⟨?_, hV, q⟩
      unfold kps at q; grind
    · rw [if_neg hV] at q; omega
  intro m
  induction m with
  | zero =>
    intro g hg hgm hgs
    have h0 : ¬ ftsAt a b c d e f h len w l n = 0 := fun q => by have := hgs q; have := hgc q; omega
    rw [if_neg h0] at hr
    obtain ⟨K, hK⟩ := hr
    refine ⟨K + 210, fun k hk => ?_⟩
    obtain ⟨k, rfl⟩ : ∃ q, k = q + 1 := ⟨k - 1, by omega⟩
    show gangsawref42_Plan.l1 (k + 1) h len w l n g a b c d e f = _
    rw [rone _ _ _ _ _ _ _ _ _ _ _ _ hc hh hn (by omega) k (by omega), if_neg (by omega)]
    exact hK k (by omega)
  | succ m ih =>
    intro g hg hgm hgs
    have next : ¬ ftsAt a b c d e f h len w l n = 0 → ∃ K, ∀ k, K ≤ k → gangsawref42_Plan.l0 k h len w l (n + 1) a b c d e f = some res := by
      intro q; rw [if_neg q] at hr; exact hr
    by_cases hV : V n (h / n) (h % n) g w l
    · by_cases hk0 : kps a b c d e f n (h / n) (h % n) g w l = 0
      · have hb := gst_best (len := len) hc hh hl hn.1 (g := g) (by omega) (by unfold fts; rw [if_pos hc, if_pos hV]; exact hk0)
        have e1 : g = gst d f h len n := by have := hgs hb.2; omega
        rw [if_pos hb.2] at hr
        refine ⟨210, fun k hk => ?_⟩
        obtain ⟨k, rfl⟩ : ∃ q, k = q + 1 := ⟨k - 1, by omega⟩
        show gangsawref42_Plan.l1 (k + 1) h len w l n g a b c d e f = _
        rw [rone _ _ _ _ _ _ _ _ _ _ _ _ hc hh hn (by omega) k (by omega), if_pos (by omega), if_pos hV, if_pos hk0, hr]
        unfold pl
        rw [e1]
      · by_cases hk6 : kps a b c d e f n (h / n) (h % n) g w l = 6
        · have h0 : ¬ ftsAt a b c d e f h len w l n = 0 := by
            intro q
            have q1 := hgc q
            have q2 := q1.2.2
            unfold kps at hk6 q2
            grind
          obtain ⟨K, hK⟩ := next h0
          refine ⟨K + 210, fun k hk => ?_⟩
          obtain ⟨k, rfl⟩ : ∃ q, k = q + 1 := ⟨k - 1, by omega⟩
          show gangsawref42_Plan.l1 (k + 1) h len w l n g a b c d e f = _
          rw [rone _ _ _ _ _ _ _ _ _ _ _ _ hc hh hn (by omega) k (by omega), if_pos (by omega), if_pos hV, if_neg hk0, if_pos hk6]
          exact hK (k - 1) (by omega)
        · obtain ⟨K, hK⟩ := ih (g - 1) (by omega) (by omega) (fun q => by
            have q1 := hgs q
            have q2 := hgc q
            by_cases e1 : gst d f h len n = g
            · rw [e1] at q2; exact absurd q2.2.2 hk0
            · omega)
          refine ⟨K + 210, fun k hk => ?_⟩
          obtain ⟨k, rfl⟩ : ∃ q, k = q + 1 := ⟨k - 1, by omega⟩
          show gangsawref42_Plan.l1 (k + 1) h len w l n g a b c d e f = _
          rw [rone _ _ _ _ _ _ _ _ _ _ _ _ hc hh hn (by omega) k (by omega), if_pos (by omega), if_pos hV, if_neg hk0, if_neg hk6]
          exact hK (k - 1) (by omega)
    · have h0 : ¬ ftsAt a b c d e f h len w l n = 0 := by
        intro q
        have q1 := hgs q
        have q2 := (hgc q).2.1
        apply hV
        unfold V at q2 ⊢
        omega
      obtain ⟨K, hK⟩ := next h0
      refine ⟨K + 210, fun k hk => ?_⟩
      obtain ⟨k, rfl⟩ : ∃ q, k = q + 1 := ⟨k - 1, by omega⟩
      show gangsawref42_Plan.l1 (k + 1) h len w l n g a b c d e f = _
      rw [rone _ _ _ _ _ _ _ _ _ _ _ _ hc hh hn (by omega) k (by omega), if_pos (by omega), if_neg hV]
      exact hK (k - 1) (by omega)
theorem rplan0 (a b c d e f h len w l : Int) (hc : chk a b c d e f = 0) (hh : 1 ≤ h ∧ h ≤ 640000) (hl : 1 ≤ len ∧ len ≤ 640000) :
    ∀ (m : Nat) (n : Int), 1 ≤ n → n + m = 65 →
      ∀ res, ((∃ n0, n ≤ n0 ∧ n0 ≤ 64 ∧ ftsAt a b c d e f h len w l n0 = 0 ∧ (∀ n', n ≤ n' → n' < n0 → ftsAt a b c d e f h len w l n' ≠ 0) ∧ res = pl d f h len w l n0) ∨
      ((∀ n', n ≤ n' → n' ≤ 64 → ftsAt a b c d e f h len w l n' ≠ 0) ∧ res = (0, 0, 0, 0, 0, 0, 9))) → Ev (fun k => gangsawref42_Plan.l0 k h len w l n a b c d e f) res := by
  have hcd : 1 ≤ c ∧ c ≤ 10000 ∧ d ≤ 10000 ∧ 1 ≤ f ∧ f ≤ 30000 ∧ c ≤ d := by unfold chk at hc; grind
  intro m
  induction m with
  | zero =>
    intro n hn hm res hres
    refine ⟨1, fun k hk => ?_⟩
    obtain ⟨k, rfl⟩ : ∃ q, k = q + 1 := ⟨k - 1, by omega⟩
    simp only [gangsawref42_Plan.l0]
    rw [if_neg (by omega)]
    rcases hres with ⟨n0, h1, h2, _⟩ | ⟨_, h2⟩
    · omega
    · rw [h2]
  | succ m ih =>
    intro n hn hm res hres
    have hdl := div_mod hl hn
    have hmn : mn (len / n) d ≤ len / n ∧ mn (len / n) d ≤ d ∧ 0 ≤ mn (len / n) d := by unfold mn; grind
    have key : Ev (fun k => gangsawref42_Plan.l1 k h len w l n (mn (len / n) d) a b c d e f) res := by
      by_cases low : c ≤ mn (len / n) d
      · refine rplan1 a b c d e f h len w l n hc hh hl ⟨hn, by omega⟩ res ?_ (mn (len / n) d - c + 1).toNat _ (by omega) (Int.le_refl _) (fun _ => by unfold gst mn; grind)
        split
        · rename_i h0
          rcases hres with ⟨n0, h1, h2, h3, h4, h5⟩ | ⟨h1, h2⟩
          · by_cases e1 : n0 = n
            · rw [h5, e1]
            · exact absurd h0 (h4 n (by omega) (by omega))
          · exact absurd h0 (h1 n (by omega) (by omega))
        · rename_i h0
          refine ih (n + 1) (by omega) (by omega) res ?_
          rcases hres with ⟨n0, h1, h2, h3, h4, h5⟩ | ⟨h1, h2⟩
          · by_cases e1 : n0 = n
            · rw [e1] at h3; exact absurd h3 h0
            · exact .inl ⟨n0, by omega, h2, h3, fun n' q1 q2 => h4 n' (by omega) q2, h5⟩
          · exact .inr ⟨fun n' q1 q2 => h1 n' (by omega) q2, h2⟩
      · -- no going at all
        have h0 : ¬ ftsAt a b c d e f h len w l n = 0 := by
          intro q
          unfold ftsAt fts at q
          rw [if_pos hc] at q
          by_cases hV : V n (h / n) (h % n) (gst d f h len n) w l
          · rw [if_pos hV] at q
            have : gst d f h len n ≤ mn (len / n) d := by unfold gst mn; grind
            unfold kps at q
            grind
          · rw [if_neg hV] at q; omega
        have hres' := ih (n + 1) (by omega) (by omega) res (by
          rcases hres with ⟨n0, h1, h2, h3, h4, h5⟩ | ⟨h1, h2⟩
          · by_cases e1 : n0 = n
            · rw [e1] at h3; exact absurd h3 h0
            · exact .inl ⟨n0, by omega, h2, h3, fun n' q1 q2 => h4 n' (by omega) q2, h5⟩
          · exact .inr ⟨fun n' q1 q2 => h1 n' (by omega) q2, h2⟩)
        obtain ⟨K, hK⟩ := hres'
        refine ⟨K + 210, fun k hk => ?_⟩
        obtain ⟨k, rfl⟩ : ∃ q, k = q + 1 := ⟨k - 1, by omega⟩
        show gangsawref42_Plan.l1 (k + 1) h len w l n _ a b c d e f = _
        rw [rone _ _ _ _ _ _ _ _ _ _ _ _ hc hh ⟨hn, by omega⟩ (by omega) k (by omega), if_neg (by omega)]
        exact hK k (by omega)
    obtain ⟨K, hK⟩ := key
    refine ⟨K + 1, fun k hk => ?_⟩
    obtain ⟨k, rfl⟩ : ∃ q, k = q + 1 := ⟨k - 1, by omega⟩
    simp only [gangsawref42_Plan.l0]
    rw [if_pos (by omega), if_neg (by omega), (tdm hl hn).1]
    exact hK k (by omega)
end Go.Proofs.Ytaainbbkengjfaa.XA
