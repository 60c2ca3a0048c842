import Derived.Test.YtecbmcheojolnaaNS
import Derived.Test.YtecbmcheojolnaaXAx0
import Derived.Test.YtecbmcheojolnaaXAx23
import Derived.Test.YtecbmcheojolnaaXAx43
namespace Go.Proofs.Ytecbmcheojolnaa.Pure
open Go.RowKit Go.Proofs.Ytecbmcheojolnaa.Opens Go.Proofs.Ytecbmcheojolnaa.XA Go.Proofs.YtecbmcheojolnaaW.PrintWords Go.Proofs.YtecbmcheojolnaaW.PrintLast Go.Proofs.YtecbmcheojolnaaW.PrintMore
set_option linter.unusedVariables false
set_option linter.unusedSimpArgs false
theorem s1 {m : Nat} (hm : m ≤ 256) (lv : Nat → Nat) (t : Nat) (ht : t < m) (A B : List S47) (a b : Int)
    (H : Ev (fun k => lw_PrecedenceSame.l0 k (vI m lv) ((t : Int) + 1) a A b B) true) :
    ∀ (s p : List Nat), (p ++ s).length ≤ 1000 → (∀ x ∈ s, x < m ∧ lv x < lv t) → Ev (fun k => lw_PrecedenceSame.l1 k (vI m lv) t (toI (p ++ s)) (p.length : Int) a A b B) true
  | [], p, hl, h => by
    (apply Ev.step; focus (intro k; simp only [lw_PrecedenceSame.l1, if_neg (show ¬ (p.length : Int) < ((toI (p ++ [])).length : Int) by rw [toI_len]; simp), wr (show -9223372036854775808 ≤ (t : Int) + 1 ∧ (t : Int) + 1 ≤ 9223372036854775807 by omega)]; rfl))
    exact H
  | x :: s, p, hl, h => by
    have hp : p.length ≤ 1000 := by simp at hl; omega
    obtain ⟨h1, h2⟩ := h x (by simp)
    have ih := s1 hm lv t ht A B a b H s (p ++ [x]) (by simpa using hl) fun y hy => h y (List.mem_cons_of_mem _ hy)
    rw [len_snoc, ← app_snoc] at ih
    have hlt := toI_lt p s x
    have hrd := rd_toI p s x
    have hge : ¬ rd (vI m lv) (x : Int) ≥ rd (vI m lv) (t : Int) := by rw [rd_vI lv h1, rd_vI lv ht]; omega
    (apply Ev.step; focus (intro k; simp only [lw_PrecedenceSame.l1, if_pos hlt]; rfl))
    (apply Ev.step; focus (intro k; simp only [lw_PrecedenceSame.j16, if_pos hlt, hrd, vI_len, if_pos (show (0 : Int) ≤ (p.length : Int) by omega), if_neg (show ¬ (x : Int) < 0 by omega), if_neg (show ¬ (x : Int) ≥ (m : Int) by omega), if_pos (show (0 : Int) ≤ (x : Int) by omega), if_pos (show (x : Int) < (m : Int) by omega), if_pos (show (0 : Int) ≤ (t : Int) by omega), if_pos (show (t : Int) < (m : Int) by omega), decide_eq_false hge]; rfl))
    (apply Ev.step; focus (intro k; simp only [lw_PrecedenceSame.j17, Bool.false_eq_true, if_false, wr (show -9223372036854775808 ≤ (p.length : Int) + 1 ∧ (p.length : Int) + 1 ≤ 9223372036854775807 by omega)]; rfl))
    exact ih
theorem nds_len (m : Nat) (E : List (Nat × Nat)) (t : Nat) : (nds m E t).length ≤ m := by
  unfold nds
  have := List.length_filter_le (fun a => decide (a ∈ Gr.srch E t (m + 2) 0 [])) (List.range m)
  rwa [List.length_range] at this
theorem s0 {m : Nat} {E R : List (Nat × Nat)} (hv : Val m E) (hr : Val m R) (lv : Nat → Nat) (hN : ∀ t, t < m → nds m E t = nds m R t) (hL : ∀ t, t < m → ∀ x ∈ nds m E t, x < m ∧ lv x < lv t) :
    ∀ (n t : Nat), t + n = m → Ev (fun k => lw_PrecedenceSame.l0 k (vI m lv) t m (emb E) m (emb R)) true
  | 0, t, ht => by
    (apply Ev.step; focus (intro k; simp only [lw_PrecedenceSame.l0, if_neg (show ¬ (t : Int) < (m : Int) by omega)]; rfl))
    exact awk (Ev.now true)
  | n + 1, t, ht => by
    have hm := hv.le
    have htm : t < m := by omega
    have ih := s0 hv hr lv hN hL n (t + 1) (by omega)
    (apply Ev.step; focus (intro k; simp only [lw_PrecedenceSame.l0, if_pos (show (t : Int) < (m : Int) by omega)]; rfl))
    (apply Ev.step; focus (intro k; simp only [lw_PrecedenceSame.j10, lw_ours.f, Option.bind_some]; rfl))
    refine Ev.bind (Needs_ev hv htm) ?_
    (apply Ev.step; focus (intro k; simp only [lw_PrecedenceSame.j11]; rfl))
    refine Ev.bind (Needs_ev hr htm) ?_
    (apply Ev.step; focus (intro k; simp only [lw_PrecedenceSame.j12, if_true]; rfl))
    have := nds_len m E t
    refine Ev.bind (Same_ev _ _ (by rw [toI_len]; omega)) ?_
    rw [← hN t htm]
    simp only [decide_true, Bool.not_true]
    (apply Ev.step; focus (intro k; simp only [lw_PrecedenceSame.j13, Bool.false_eq_true, if_false]; rfl))
    (apply Ev.step; focus (intro k; simp only [lw_PrecedenceSame.j14]; rfl))
    exact s1 hm lv t htm (emb E) (emb R) m m ih (nds m E t) [] (by simp; omega) (hL t htm)
theorem PrecedenceSame : lw_PrecedenceSame.Pure := by
  intro n l x g1 g2
  refine Ev.rounds ?_
  unfold lw_PrecedenceSame.f
  have out : ∀ l, Ev (fun k => lw_PrecedenceSame.j0 k x true n l) true := fun l => by
    (apply Ev.step; focus (intro k; simp only [lw_PrecedenceSame.j0, if_true]; rfl))
    exact awk (Ev.now true)
  rcases few_cases n l with q | ⟨q, hl, hn⟩
  · simp only [q, Option.bind_some, Bool.false_eq_true, if_false]
    exact out l
  · simp only [q, Option.bind_some, if_true]
    by_cases hx : (x.length : Int) > 20
    · simp only [hx, decide_true]
      exact out l
    · simp only [hx, decide_false]
      (apply Ev.step; focus (intro k; simp only [lw_PrecedenceSame.j0, Bool.false_eq_true, if_false]; rfl))
      (apply Ev.step; focus (intro k; simp only [lw_PrecedenceSame.j1, lw_ours.f, Option.bind_some]; rfl))
      by_cases hc : chk n l = 0
      · obtain ⟨m, E, rfl, rfl, hv⟩ := valid (by omega) hc
        refine Ev.bind (Reduce_ev hv) ?_
        by_cases z : (Gr.order E m).length < m
        · have h13 : ¬ ((13 : Int) = 0) := by decide
          simp only [if_pos z, if_neg h13]
          exact awk (Ev.now true)
        · obtain ⟨hfl, hcy⟩ := (full hv).resolve_left z
          have hr := red_val hv
          have hR := red_Red hv
          have hg := Gr.order_good E m
          have hle := hv.le
          have hoR : Gr.order (red m E) m = Gr.order E m := (Gr.red_ord hv.lt hg hfl hR m (Gr.good_nil E m)).symm
          have zR : ¬ (Gr.order (red m E) m).length < m := by rw [hoR]; exact z
          have hsub : ∀ a b, (a, b) ∈ red m E → (a, b) ∈ E := fun a b h => ((hR a b).1 h).1
          have eS : srt m E = (toI (Gr.order E m), 0) := by unfold srt; rw [if_neg z]
          have eR : srt m (red m E) = (toI (Gr.order E m), 0) := by unfold srt; rw [if_neg zR, hoR]
          have hlv := Gr.lvls_is hv.lt hg hfl
          have eL : vI m (Gr.rls (red m E) m) = vI m (Gr.rls E m) := vI_congr fun j hj => by
            rw [Gr.rls_is hlv hg hfl j hj, Gr.rls_is (Gr.red_lv hR hlv) (Gr.good_sub hsub hg) hfl j hj]
          simp only [if_neg z, if_true]
          (apply Ev.step; focus (intro k; simp only [lw_PrecedenceSame.j2, lw_ours.f, Option.bind_some]; rfl))
          refine Ev.bind (Order_sorted (sorted_ev hv)) ?_
          (apply Ev.step; focus (intro k; simp only [lw_PrecedenceSame.j3]; rfl))
          refine Ev.bind (Order_sorted (sorted_ev hr)) ?_
          (apply Ev.step; focus (intro k; simp only [lw_PrecedenceSame.j4, lw_ours.f, Option.bind_some]; rfl))
          refine Ev.bind (Levels_ev hv) ?_
          (apply Ev.step; focus (intro k; simp only [lw_PrecedenceSame.j5]; rfl))
          refine Ev.bind (Levels_ev hr) ?_
          rw [eS, eR, lvs_same hv z, lvs_same hr zR, eL]
          have hlen : ¬ ((emb (red m E)).length : Int) > ((emb E).length : Int) := by
            rw [emb_len, emb_len]
            have : (red m E).length ≤ E.length := List.length_filter_le _ _
            omega
          have hvl : ((vI m (Gr.rls E m)).length : Int) = m := by rw [vI_len]
          (apply Ev.step; focus (intro k; simp only [lw_PrecedenceSame.j6, if_true, if_neg hlen, if_pos hvl, lw_ours.f, Option.bind_some]; rfl))
          refine Ev.bind (Same_ev _ _ (by rw [toI_len]; omega)) ?_
          simp only [decide_true, if_true]
          refine Ev.bind (Same_ev _ _ (by rw [vI_len]; omega)) ?_
          simp only [decide_true, if_true]
          obtain ⟨b, hb, hbi⟩ := Is_ev hv x (by omega)
          obtain ⟨c, hc2, hci⟩ := Is_ev hr x (by omega)
          have hbc : b = c := by
            rw [Bool.eq_iff_iff, hbi, hci]
            exact ⟨fun ⟨q, h1, h2, h3⟩ => ⟨q, h1, h2, Gr.good_sub hsub h3⟩, fun ⟨q, h1, h2, h3⟩ => ⟨q, h1, h2, Gr.red_good hv.lt hg hfl hR h3 h2⟩⟩
          subst hbc
          refine Ev.bind hb ?_
          refine Ev.bind hc2 ?_
          (apply Ev.step; focus (intro k; simp only [lw_PrecedenceSame.j7, bne_self_eq_false, Bool.false_eq_true, if_false]; rfl))
          (apply Ev.step; focus (intro k; simp only [lw_PrecedenceSame.j8]; rfl))
          have hnd : ∀ t, t < m → ∀ a, Gr.Need E a t ↔ Gr.Need (red m E) a t := fun t ht a =>
            ⟨fun h => Gr.red_need hg hR _ a t (Gr.cover m _ hg.1 hg.2.1 (by omega) t ht) rfl h, fun h => Gr.need_sub hsub h⟩
          refine s0 hv hr (Gr.rls E m) (fun t ht => ?_) (fun t ht y hy => ?_) m 0 (by omega)
          · unfold nds
            refine List.filter_congr fun a ha => ?_
            have ham : a < m := List.mem_range.1 ha
            have u1 := mem_nds hv ht a
            have u2 := mem_nds hr ht a
            unfold nds at u1 u2
            simp only [List.mem_filter, List.mem_range, ham, true_and, decide_eq_true_eq] at u1 u2
            rw [decide_eq_decide, u1, u2]
            exact hnd t ht a
          · have hy2 : y < m := by unfold nds at hy; exact List.mem_range.1 (List.mem_filter.1 hy).1
            refine ⟨hy2, ?_⟩
            rw [Gr.rls_is hlv hg hfl y hy2, Gr.rls_is hlv hg hfl t ht]
            exact Gr.lv_need hlv ((mem_nds hv ht y).1 hy)
      · refine Ev.bind (Reduce_bad (by omega) hc) ?_
        simp only [if_neg hc]
        exact awk (Ev.now true)
end Go.Proofs.Ytecbmcheojolnaa.Pure
