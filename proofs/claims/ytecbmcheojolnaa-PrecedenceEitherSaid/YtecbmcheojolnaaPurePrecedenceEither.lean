import Derived.Test.YtecbmcheojolnaaNE
import Derived.Test.YtecbmcheojolnaaXAx0
import Derived.Test.YtecbmcheojolnaaXAx23
import Derived.Test.YtecbmcheojolnaaXAx42
namespace Go.Proofs.Ytecbmcheojolnaa.Pure
open Go.RowKit Go.Proofs.Ytecbmcheojolnaa.Opens Go.Proofs.Ytecbmcheojolnaa.XA Go.Proofs.YtecbmcheojolnaaW.PrintWords Go.Proofs.YtecbmcheojolnaaW.PrintLast Go.Proofs.YtecbmcheojolnaaW.PrintMore
set_option linter.unusedVariables false
set_option linter.unusedSimpArgs false
structure Ring (E : List (Nat × Nat)) (L : List Nat) : Prop where
  pos : 0 < L.length
  len : L.length ≤ 1000
  dif : L.Nodup
  low : ∀ (i : Nat) (h : i < L.length), L[0] ≤ L[i]
  edge : ∀ (i : Nat) (h : i < L.length), (L[i], L[(i + 1) % L.length]'(Nat.mod_lt _ pos)) ∈ E
theorem rd_at {L : List Nat} {i : Nat} (h : i < L.length) : rd (toI L) (i : Int) = (L[i] : Nat) := rd_get (List.getElem?_eq_getElem h)
theorem e1 {E : List (Nat × Nat)} {L : List Nat} (r : Ring E L) (m : Int) (c : Nat) (hc : c < L.length) (H : Ev (fun k => lw_PrecedenceEither.l0 k (toI L) ((c : Int) + 1) m (emb E)) true) :
    ∀ (n d : Nat), d + n = c → Ev (fun k => lw_PrecedenceEither.l1 k (toI L) c d m (emb E)) true
  | 0, d, hd => by
    have := r.len
    (apply Ev.step; focus (intro k; simp only [lw_PrecedenceEither.l1, if_neg (show ¬ (d : Int) < c by omega), wr (show -9223372036854775808 ≤ (c : Int) + 1 ∧ (c : Int) + 1 ≤ 9223372036854775807 by omega)]; rfl))
    exact H
  | n + 1, d, hd => by
    have hl := r.len
    have ih := e1 r m c hc H n (d + 1) (by omega)
    have hne : ¬ rd (toI L) (d : Int) = rd (toI L) (c : Int) := by
      rw [rd_at hc, rd_at (show d < L.length by omega)]
      have := (List.pairwise_iff_getElem.1 r.dif) d c (by omega) hc (by omega)
      omega
    (apply Ev.step; focus (intro k; simp only [lw_PrecedenceEither.l1, if_pos (show (d : Int) < c by omega)]; rfl))
    (apply Ev.step; focus (intro k; simp only [lw_PrecedenceEither.j16, toI_len, if_pos (show (0 : Int) ≤ d by omega), if_pos (show (d : Int) < (L.length : Int) by omega), if_pos (show (0 : Int) ≤ c by omega), if_pos (show (c : Int) < (L.length : Int) by omega), if_neg hne, wr (show -9223372036854775808 ≤ (d : Int) + 1 ∧ (d : Int) + 1 ≤ 9223372036854775807 by omega)]; rfl))
    exact ih
theorem e0 {E : List (Nat × Nat)} (hE : E.length ≤ 1000) {L : List Nat} (r : Ring E L) (m : Int) : ∀ (n c : Nat), c + n = L.length → Ev (fun k => lw_PrecedenceEither.l0 k (toI L) c m (emb E)) true
  | 0, c, hc => by
    (apply Ev.step; focus (intro k; simp only [lw_PrecedenceEither.l0, toI_len, if_neg (show ¬ (c : Int) < (L.length : Int) by omega)]; rfl))
    exact awk (Ev.now true)
  | n + 1, c, hc => by
    have hl := r.len
    have hp := r.pos
    have hcl : c < L.length := by omega
    have ih := e0 hE r m n (c + 1) (by omega)
    have hlo : ¬ rd (toI L) (c : Int) < rd (toI L) 0 := by
      have h0 : rd (toI L) ((0 : Nat) : Int) = (L[0] : Nat) := rd_at hp
      have := r.low c hcl
      rw [rd_at hcl, show (0 : Int) = ((0 : Nat) : Int) from rfl, h0]
      omega
    have hml : (c + 1) % L.length < L.length := Nat.mod_lt _ hp
    have hmod : Int.tmod (wrap64 ((c : Int) + 1)) (L.length : Int) = (((c + 1) % L.length : Nat) : Int) := by
      rw [wr (by omega), Int.tmod_eq_emod_of_nonneg (by omega), Int.natCast_emod, Int.natCast_add]
      rfl
    (apply Ev.step; focus (intro k; simp only [lw_PrecedenceEither.l0, toI_len, if_pos (show (c : Int) < (L.length : Int) by omega)]; rfl))
    have hed := r.edge c hcl
    have hEd := Edge_ev hE m L[c] (L[(c + 1) % L.length]'hml)
    rw [decide_eq_true hed, ← rd_at hcl, ← rd_at hml] at hEd
    (apply Ev.step; focus (intro k; simp only [lw_PrecedenceEither.j12, toI_len, if_pos (show (0 : Int) ≤ c by omega), if_pos (show (c : Int) < (L.length : Int) by omega), if_pos (show (0 : Int) < (L.length : Int) by omega), if_neg hlo, if_neg (show ¬ (L.length : Int) = 0 by omega), hmod, if_pos (show (0 : Int) ≤ (((c + 1) % L.length : Nat) : Int) from Int.natCast_nonneg _), if_pos (show (((c + 1) % L.length : Nat) : Int) < (L.length : Int) from Int.ofNat_lt.2 hml)]; rfl))
    refine Ev.bind hEd ?_
    simp only [Bool.not_true]
    (apply Ev.step; focus (intro k; simp only [lw_PrecedenceEither.j13, Bool.false_eq_true, if_false]; rfl))
    (apply Ev.step; focus (intro k; simp only [lw_PrecedenceEither.j14]; rfl))
    exact e1 r m c hcl ih c 0 (by omega)
theorem ring {m w g : Nat} {E : List (Nat × Nat)} (hv : Val m E) (hL : Gr.Least E g w) : Ring E (Gr.cyc E m w) := by
  obtain ⟨t, ht, hd, hlt, hed⟩ := Gr.cyc_good hv.lt hv.sorted hL
  have h2 := Gr.least_restr hL
  have h3 := Gr.cyc_len hv.lt h2
  have h4 := Gr.sh_len hv.lt _ _ h2
  have hm := hv.le
  generalize Gr.cyc E m w = L at *
  subst ht
  refine ⟨by simp, by omega, ?_, ?_, ?_⟩
  · refine List.nodup_cons.2 ⟨fun q => ?_, hd⟩
    have := hlt _ q
    omega
  · intro i h
    cases i with
    | zero => exact Nat.le_refl _
    | succ i =>
      have := hlt _ (List.getElem_mem (show i < t.length by simpa using h))
      simp only [List.getElem_cons_succ, List.getElem_cons_zero]
      omega
  · intro i h
    rw [← List.cons_append] at hed
    have hx : (w :: t) ++ [w] = ((w :: t) ++ [w]).take i ++ ((w :: t) ++ [w])[i]'(by simp at h ⊢; omega) :: ((w :: t) ++ [w])[i + 1]'(by simp at h ⊢; omega) :: ((w :: t) ++ [w]).drop (i + 2) := by
      rw [← List.drop_eq_getElem_cons, ← List.drop_eq_getElem_cons, List.take_append_drop]
    have h5 := hed _ _ _ _ hx
    rw [List.getElem_append_left h] at h5
    by_cases q : i + 1 < (w :: t).length
    · rw [List.getElem_append_left q] at h5
      simp only [Nat.mod_eq_of_lt q]
      exact h5
    · have e : i + 1 = (w :: t).length := by omega
      have h6 : ((w :: t) ++ [w])[i + 1]'(by simp at h ⊢; omega) = w := by
        rw [List.getElem_append_right (by omega)]
        simp
      rw [h6] at h5
      have h7 : (i + 1) % (w :: t).length = 0 := by rw [e, Nat.mod_self]
      simp only [h7]
      exact h5
theorem chk13 (n : Int) (l : List S47) : chk n l ≠ 13 := by
  unfold chk
  split
  · decide
  · split
    · decide
    · split
      · decide
      · split <;> decide
theorem PrecedenceEither : lw_PrecedenceEither.Pure := by
  intro n l g1
  refine Ev.rounds ?_
  unfold lw_PrecedenceEither.f
  rcases few_cases n l with q | ⟨q, hl, hn⟩
  · simp only [q, Option.bind_some, Bool.not_false]
    (apply Ev.step; focus (intro k; simp only [lw_PrecedenceEither.j0, if_true]; rfl))
    exact awk (Ev.now true)
  · simp only [q, Option.bind_some, Bool.not_true]
    (apply Ev.step; focus (intro k; simp only [lw_PrecedenceEither.j0, Bool.false_eq_true, if_false]; rfl))
    (apply Ev.step; focus (intro k; simp only [lw_PrecedenceEither.j1, lw_ours.f, Option.bind_some]; rfl))
    by_cases hc : chk n l = 0
    · obtain ⟨m, E, rfl, rfl, hv⟩ := valid (by omega) hc
      refine Ev.bind (Order_sorted (sorted_ev hv)) ?_
      (apply Ev.step; focus (intro k; simp only [lw_PrecedenceEither.j2, lw_ours.f, Option.bind_some]; rfl))
      refine Ev.bind (Cycle_ev hv) ?_
      by_cases z : (Gr.order E m).length < m
      · have e : srt m E = ([], 13) := by unfold srt; rw [if_pos z]
        rw [e]
        obtain ⟨g, w, hL⟩ := Gr.least_ex (Gr.has_cyc hv.lt z)
        obtain ⟨e1, e2, e3⟩ := bst_yes hv hL
        rw [e1, e2]
        have r := ring hv hL
        have hp := r.pos
        have hb : ((13 : Int) != 13) = false := rfl
        have hz : ((((toI (Gr.cyc E m w)).length : Nat) : Int) == 0) = false := by
          rw [toI_len, beq_eq_false_iff_ne]; omega
        have h13 : ¬ ((13 : Int) = 0) := by decide
        (apply Ev.step; focus (intro k; simp only [lw_PrecedenceEither.j3, if_neg h13, hb]; rfl))
        (apply Ev.step; focus (intro k; simp only [lw_PrecedenceEither.j4, Bool.false_eq_true, if_false]; rfl))
        (apply Ev.step; focus (intro k; simp only [lw_PrecedenceEither.j6, if_neg h13]; rfl))
        (apply Ev.step; focus (intro k; simp only [lw_PrecedenceEither.j8, if_true, hz]; rfl))
        (apply Ev.step; focus (intro k; simp only [lw_PrecedenceEither.j9, Bool.false_eq_true, if_false]; rfl))
        (apply Ev.step; focus (intro k; simp only [lw_PrecedenceEither.j10]; rfl))
        exact e0 hv.len r m (Gr.cyc E m w).length 0 (by omega)
      · have e : srt m E = (toI (Gr.order E m), 0) := by unfold srt; rw [if_neg z]
        obtain ⟨h1, h2⟩ := (full hv).resolve_left z
        rw [e, bst_no hv h2]
        (apply Ev.step; focus (intro k; simp only [lw_PrecedenceEither.j3, if_true]; rfl))
        (apply Ev.step; focus (intro k; simp only [lw_PrecedenceEither.j4, Bool.false_eq_true, if_false]; rfl))
        (apply Ev.step; focus (intro k; simp only [lw_PrecedenceEither.j6, if_true, lw_ours.f, Option.bind_some]; rfl))
        refine awk ?_
        simp only [if_true]
        have := hv.le
        obtain ⟨b, hb, hbi⟩ := Is_ev hv (toI (Gr.order E m)) (by rw [toI_len]; omega)
        have hbt : b = true := hbi.2 ⟨_, rfl, h1, Gr.order_good E m⟩
        subst hbt
        refine Ev.bind hb ?_
        (apply Ev.step; focus (intro k; simp only [lw_PrecedenceEither.j7]; rfl))
        exact Ev.now _
    · refine Ev.bind (Order_sorted (sorted_bad (by omega) hc)) ?_
      (apply Ev.step; focus (intro k; simp only [lw_PrecedenceEither.j2, lw_ours.f, Option.bind_some]; rfl))
      refine Ev.bind (Cycle_bad (by omega) hc) ?_
      have hb : (chk n l != 13) = true := by simp [chk13]
      (apply Ev.step; focus (intro k; simp only [lw_PrecedenceEither.j3, if_neg hc, hb]; rfl))
      (apply Ev.step; focus (intro k; simp only [lw_PrecedenceEither.j4, if_true]; rfl))
      refine awk ?_
      simp only [if_true]
      (apply Ev.step; focus (intro k; simp only [lw_PrecedenceEither.j5, beq_self_eq_true]; rfl))
      exact Ev.now _
end Go.Proofs.Ytecbmcheojolnaa.Pure
