import Derived.Test.YtecbmcheojolnaaXAx0
import Derived.Test.YtecbmcheojolnaaXAx2
import Derived.Test.YtecbmcheojolnaaXAx3
import Derived.Test.YtecbmcheojolnaaXAx4
import Derived.Test.YtecbmcheojolnaaXAx5
import Derived.Test.YtecbmcheojolnaaXAx6
import Derived.Test.YtecbmcheojolnaaXAx24
import Derived.Test.YtecbmcheojolnaaXAx25
import Derived.Test.YtecbmcheojolnaaXAx26
import Derived.Test.YtecbmcheojolnaaXAx27
import Derived.Test.YtecbmcheojolnaaHa
import Derived.Test.YtecbmcheojolnaaXAx14
import Derived.Test.YtecbmcheojolnaaXAx15
import Derived.Test.YtecbmcheojolnaaXAx22
import Derived.Test.YtecbmcheojolnaaXAx13
import Derived.Test.YtecbmcheojolnaaXAx28
import Derived.Test.YtecbmcheojolnaaXAx29
import Derived.Test.YtecbmcheojolnaaXAx30
import Derived.Test.YtecbmcheojolnaaXAx31
import Derived.Test.YtecbmcheojolnaaXAx32
import Derived.Test.YtecbmcheojolnaaXAx10
import Derived.Test.YtecbmcheojolnaaXAx11
import Derived.Test.YtecbmcheojolnaaXAx12
import Derived.Test.YtecbmcheojolnaaXAx37
import Derived.Test.YtecbmcheojolnaaXAx20
import Derived.Test.YtecbmcheojolnaaXAx34
import Derived.Test.YtecbmcheojolnaaXAx40
import Derived.Test.YtecbmcheojolnaaXAx8
import Derived.Test.YtecbmcheojolnaaHc
import Derived.Test.YtecbmcheojolnaaXAx35
import Derived.Test.YtecbmcheojolnaaXAx36
import Derived.Test.YtecbmcheojolnaaXAx16
import Derived.Test.YtecbmcheojolnaaXAx17
import Derived.Test.YtecbmcheojolnaaXAx18
import Derived.Test.YtecbmcheojolnaaXAx19
import Derived.Test.YtecbmcheojolnaaXAx21
import Derived.Test.YtecbmcheojolnaaXAx39
import Derived.Test.YtecbmcheojolnaaXAx23
set_option linter.unusedVariables false
set_option linter.unusedSimpArgs false
namespace Go.Proofs.Ytecbmcheojolnaa.Gr
theorem cover : ∀ (n : Nat) (l : List Nat), l.Nodup → (∀ x ∈ l, x < n) → n ≤ l.length → ∀ a, a < n → a ∈ l
  | 0, l, _, _, _, a, ha => absurd ha (by omega)
  | n + 1, l, hd, hl, hn, a, ha => by
    by_cases hm : n ∈ l
    · by_cases e : a = n
      · rw [e]; exact hm
      · have h := cover n (l.erase n) (hd.erase n) (fun x hx => by
          have h1 := hl x (List.mem_of_mem_erase hx)
          have h2 : x ≠ n := fun q => by rw [q] at hx; exact (hd.not_mem_erase hx)
          omega) (by rw [List.length_erase_of_mem hm]; omega) a (by omega)
        exact List.mem_of_mem_erase h
    · have h := cover n (l.tail) (hd.sublist (List.tail_sublist l)) (fun x hx => by
        have h1 := hl x (List.mem_of_mem_tail hx)
        have h2 : x ≠ n := fun q => by rw [q] at hx; exact hm (List.mem_of_mem_tail hx)
        omega) (by rw [List.length_tail]; omega)
      exfalso
      match l, hn, hd, hl, hm, h with
      | [], hn, _, _, _, _ => simp at hn
      | b :: t, hn, hd, hl, hm, h =>
        have hb := hl b (by simp)
        have hbn : b ≠ n := fun q => hm (by simp [q])
        exact (List.nodup_cons.1 hd).1 (h b (by omega))
theorem few (n : Nat) (l : List Nat) (hd : l.Nodup) (hl : ∀ x ∈ l, x < n) : l.length ≤ n := by
  refine Classical.byContradiction fun h => ?_
  match l, hd, hl, h with
  | [], _, _, h => simp at h
  | b :: t, hd, hl, h =>
    have := cover n t (List.nodup_cons.1 hd).2 (fun x hx => hl x (by simp [hx])) (by simp only [List.length_cons] at h; omega) b (hl b (by simp))
    exact (List.nodup_cons.1 hd).1 this
def Wy (E : List (Nat × Nat)) (S : Nat → Prop) : Nat → Nat → Nat → Prop
  | 0, a, b => (a, b) ∈ E
  | k + 1, a, b => ∃ c, (a, c) ∈ E ∧ S c ∧ Wy E S k c b
theorem wy_mono {E : List (Nat × Nat)} {S T : Nat → Prop} (h : ∀ x, S x → T x) : ∀ k a b, Wy E S k a b → Wy E T k a b
  | 0, _, _, q => q
  | k + 1, _, b, ⟨c, h1, h2, h3⟩ => ⟨c, h1, h c h2, wy_mono h k c b h3⟩
theorem wy_app {E : List (Nat × Nat)} {S : Nat → Prop} {c : Nat} (hc : S c) : ∀ k m a b, Wy E S k a c → Wy E S m c b → Wy E S (k + m + 1) a b
  | 0, m, a, b, h1, h2 => by rw [Nat.zero_add]; exact ⟨c, h1, hc, h2⟩
  | k + 1, m, a, b, ⟨d, h1, h2, h3⟩, h4 => by
    rw [show k + 1 + m + 1 = (k + m + 1) + 1 by omega]
    exact ⟨d, h1, h2, wy_app hc k m d b h3 h4⟩
def Cyc (E : List (Nat × Nat)) : Prop := ∃ k a, Wy E (fun _ => True) k a a
def Sh (E : List (Nat × Nat)) (S : Nat → Prop) (j a b : Nat) : Prop := Wy E S j a b ∧ ∀ i, i < j → ¬ Wy E S i a b
def Least (E : List (Nat × Nat)) (g m : Nat) : Prop := Wy E (fun _ => True) g m m ∧ (∀ i a, i < g → ¬ Wy E (fun _ => True) i a a) ∧ ∀ a, a < m → ¬ Wy E (fun _ => True) g a a
theorem wy_snoc {E : List (Nat × Nat)} {k a b c : Nat} (h : Wy E (fun _ => True) k a b) (hc : (b, c) ∈ E) : Wy E (fun _ => True) (k + 1) a c := by
  have := wy_app (S := fun _ => True) (c := b) trivial k 0 a c h hc
  simpa using this
theorem on_gt {E : List (Nat × Nat)} {g m : Nat} (h : Least E g m) {i j c : Nat} (h1 : Wy E (fun _ => True) i m c) (h2 : Wy E (fun _ => True) j c m) (e : i + j + 1 = g) : m < c := by
  have r := wy_app (S := fun _ => True) (c := m) trivial j i c c h2 h1
  rw [show j + i + 1 = g by omega] at r
  have : ¬ c < m := fun q => h.2.2 c q r
  have : c ≠ m := fun q => by rw [q] at h1; exact h.2.1 i m (by omega) h1
  omega
theorem restrict {E : List (Nat × Nat)} {g m : Nat} (h : Least E g m) : ∀ j i c, Wy E (fun _ => True) i m c → Wy E (fun _ => True) j c m → i + j + 1 = g → Wy E (fun x => m < x) j c m
  | 0, i, c, h1, h2, e => h2
  | j + 1, i, c, h1, ⟨d, h2, _, h3⟩, e => by
    have h4 := wy_snoc h1 h2
    exact ⟨d, h2, on_gt h h4 h3 (by omega), restrict h j (i + 1) d h4 h3 (by omega)⟩
theorem same_choice {E : List (Nat × Nat)} {g m : Nat} (h : Least E g m) {i j k : Nat} (h1 : Wy E (fun _ => True) i m k) (e : i + j + 1 = g) : (k ≠ m ∧ Sh E (fun _ => True) j k m) ↔ (m < k ∧ Sh E (fun x => m < x) j k m) := by
  constructor
  · rintro ⟨h2, h3, h4⟩
    exact ⟨on_gt h h1 h3 e, restrict h j i k h1 h3 e, fun p hp q => h4 p hp (wy_mono (fun _ _ => trivial) _ _ _ q)⟩
  · rintro ⟨h2, h3, h4⟩
    refine ⟨by omega, wy_mono (fun _ _ => trivial) _ _ _ h3, fun p hp q => ?_⟩
    have r := wy_app (S := fun _ => True) (c := k) trivial i p m m h1 q
    exact h.2.1 _ m (by omega) r
theorem least_restr {E : List (Nat × Nat)} {g m : Nat} (h : Least E g m) : Sh E (fun x => m < x) g m m := by
  refine ⟨?_, fun i hi q => h.2.1 i m hi (wy_mono (fun _ _ => trivial) _ _ _ q)⟩
  cases g with
  | zero => exact h.1
  | succ g =>
    obtain ⟨d, h1, _, h2⟩ := h.1
    exact ⟨d, h1, on_gt h (i := 0) h1 h2 (by omega), restrict h g 0 d h1 h2 (by omega)⟩
theorem sh_ne {E : List (Nat × Nat)} {b : Nat} : ∀ j a, (Sh E (fun _ => True) j a b ↔ Sh E (fun x => x ≠ b) j a b) := by
  have key : ∀ j a, Wy E (fun _ => True) j a b → (∀ i, i < j → ¬ Wy E (fun _ => True) i a b) → Wy E (fun x => x ≠ b) j a b := by
    intro j
    induction j with
    | zero => intro a h _; exact h
    | succ j ih =>
      rintro a ⟨c, h1, _, h2⟩ hs
      refine ⟨c, h1, fun q => hs 0 (by omega) (q ▸ h1), ih c h2 fun i hi q => hs (i + 1) (by omega) ⟨c, h1, trivial, q⟩⟩
  have ex : ∀ j a, Wy E (fun _ => True) j a b → ∃ i, i ≤ j ∧ Sh E (fun _ => True) i a b := by
    intro j
    induction j using Nat.strongRecOn with
    | ind j ih =>
      intro a h
      by_cases q : ∃ i, i < j ∧ Wy E (fun _ => True) i a b
      · obtain ⟨i, hi, hw⟩ := q
        obtain ⟨i', h1, h2⟩ := ih i hi a hw
        exact ⟨i', by omega, h2⟩
      · exact ⟨j, Nat.le_refl _, h, fun i hi hw => q ⟨i, hi, hw⟩⟩
  intro j a
  constructor
  · rintro ⟨h1, h2⟩
    exact ⟨key j a h1 h2, fun i hi q => h2 i hi (wy_mono (fun _ _ => trivial) _ _ _ q)⟩
  · rintro ⟨h1, h2⟩
    refine ⟨wy_mono (fun _ _ => trivial) _ _ _ h1, fun i hi q => ?_⟩
    obtain ⟨i', h3, h4⟩ := ex i a q
    exact h2 i' (by omega) (key i' a h4.1 h4.2)
def Need (E : List (Nat × Nat)) (a b : Nat) : Prop := ∃ k, Wy E (fun _ => True) k a b
theorem need_edge {E : List (Nat × Nat)} {a b : Nat} (h : (a, b) ∈ E) : Need E a b := ⟨0, h⟩
theorem need_trans {E : List (Nat × Nat)} {a b c : Nat} (h : Need E a b) (k : Need E b c) : Need E a c := by
  obtain ⟨i, h⟩ := h
  obtain ⟨j, k⟩ := k
  exact ⟨_, wy_app (S := fun _ => True) (c := b) trivial i j a c h k⟩
theorem need_cons {E : List (Nat × Nat)} {a b : Nat} (h : Need E a b) : ∃ c, (a, c) ∈ E ∧ (c = b ∨ Need E c b) := by
  obtain ⟨k, h⟩ := h
  cases k with
  | zero => exact ⟨b, h, .inl rfl⟩
  | succ k => obtain ⟨c, h1, _, h2⟩ := h; exact ⟨c, h1, .inr ⟨k, h2⟩⟩
def bh (E : List (Nat × Nat)) (i : Nat) : List Nat := (E.filter fun p => decide (p.1 = i)).map (·.2)
def bf (E : List (Nat × Nat)) (i : Nat) : List Nat := (E.filter fun p => decide (p.2 = i)).map (·.1)
theorem mem_bh {E : List (Nat × Nat)} {a b : Nat} : b ∈ bh E a ↔ (a, b) ∈ E := by
  simp only [bh, List.mem_map, List.mem_filter, decide_eq_true_eq]
  constructor
  · rintro ⟨⟨x, y⟩, ⟨h1, h2⟩, h3⟩; simp only at h2 h3; rw [← h2, ← h3]; exact h1
  · intro h; exact ⟨(a, b), ⟨h, rfl⟩, rfl⟩
theorem mem_bf {E : List (Nat × Nat)} {a b : Nat} : a ∈ bf E b ↔ (a, b) ∈ E := by
  simp only [bf, List.mem_map, List.mem_filter, decide_eq_true_eq]
  constructor
  · rintro ⟨⟨x, y⟩, ⟨h1, h2⟩, h3⟩; simp only at h2 h3; rw [← h2, ← h3]; exact h1
  · intro h; exact ⟨(a, b), ⟨h, rfl⟩, rfl⟩
def grow : List Nat → List Nat → List Nat
  | [], r => r
  | i :: L, r => if i ∈ r then grow L r else grow L (r ++ [i])
theorem grow_spec : ∀ (L r : List Nat), r.Nodup → (grow L r).Nodup ∧ (∀ x, x ∈ grow L r ↔ x ∈ r ∨ x ∈ L) ∧ ∃ t, grow L r = r ++ t
  | [], r, h => ⟨h, fun x => by simp [grow], [], by simp [grow]⟩
  | i :: L, r, h => by
    by_cases q : i ∈ r
    · simp only [grow, if_pos q]
      obtain ⟨a, b, c⟩ := grow_spec L r h
      refine ⟨a, fun x => ?_, c⟩
      rw [b x, List.mem_cons]
      constructor
      · rintro (h | h)
        · exact .inl h
        · exact .inr (.inr h)
      · rintro (h | h | h)
        · exact .inl h
        · rw [h]; exact .inl q
        · exact .inr h
    · simp only [grow, if_neg q]
      obtain ⟨a, b, t, c⟩ := grow_spec L (r ++ [i]) (by
        rw [List.nodup_append]; refine ⟨h, by simp, fun a ha b hb => ?_⟩
        simp only [List.mem_singleton] at hb; rw [hb]; exact fun e => q (e ▸ ha))
      refine ⟨a, fun x => ?_, i :: t, by rw [c]; simp⟩
      rw [b x, List.mem_append, List.mem_singleton, List.mem_cons]
      constructor
      · rintro ((h | h) | h)
        · exact .inl h
        · exact .inr (.inl h)
        · exact .inr (.inr h)
      · rintro (h | h | h)
        · exact .inl (.inl h)
        · exact .inl (.inr h)
        · exact .inr h
def srch (E : List (Nat × Nat)) (t : Nat) : Nat → Nat → List Nat → List Nat
  | 0, _, r => r
  | k + 1, p, r => match (t :: r)[p]? with
    | none => r
    | some x => srch E t k (p + 1) (grow (bf E x) r)
theorem srch_spec {E : List (Nat × Nat)} {n t : Nat} (hE : ∀ p ∈ E, p.1 < n ∧ p.2 < n) : ∀ (k p : Nat) (r : List Nat), r.Nodup → (∀ a ∈ r, Need E a t) → p ≤ r.length + 1 → (∀ j, j < p → ∀ x, (t :: r)[j]? = some x → ∀ a, (a, x) ∈ E → a ∈ r) → n + 2 ≤ k + p → ∀ a, a ∈ srch E t k p r ↔ Need E a t := by
  have lim : ∀ r : List Nat, r.Nodup → (∀ a ∈ r, Need E a t) → r.length ≤ n := fun r h1 h2 => few n r h1 fun x hx => by
    obtain ⟨c, h3, _⟩ := need_cons (h2 x hx); exact (hE _ h3).1
  have fin : ∀ (p : Nat) (r : List Nat), (∀ a ∈ r, Need E a t) → r.length < p → (∀ j, j < p → ∀ x, (t :: r)[j]? = some x → ∀ a, (a, x) ∈ E → a ∈ r) → ∀ a, a ∈ r ↔ Need E a t := by
    intro p r h2 h3 h4 a
    refine ⟨h2 a, fun h => ?_⟩
    obtain ⟨k, h⟩ := h
    have main : ∀ k a, Wy E (fun _ => True) k a t → a ∈ r := by
      intro k
      induction k with
      | zero => intro a h; exact h4 0 (by omega) t rfl a h
      | succ k ih =>
        rintro a ⟨c, h5, _, h6⟩
        have := ih c h6
        obtain ⟨j, hj, e⟩ := List.mem_iff_getElem.1 this
        exact h4 (j + 1) (by omega) c (by rw [List.getElem?_cons_succ, List.getElem?_eq_getElem hj, e]) a h5
    exact main k a h
  intro k
  induction k with
  | zero =>
    intro p r h1 h2 h3 h4 hk a
    have := lim r h1 h2
    exact fin p r h2 (by omega) h4 a
  | succ k ih =>
    intro p r h1 h2 h3 h4 hk a
    simp only [srch]
    cases q : (t :: r)[p]? with
    | none =>
      simp only
      rw [List.getElem?_eq_none_iff, List.length_cons] at q
      exact fin p r h2 (by omega) h4 a
    | some x =>
      simp only
      obtain ⟨g1, g2, u, g3⟩ := grow_spec (bf E x) r h1
      have hx : x = t ∨ Need E x t := by
        cases p with
        | zero => simp only [List.getElem?_cons_zero, Option.some.injEq] at q; exact .inl q.symm
        | succ p => rw [List.getElem?_cons_succ] at q; exact .inr (h2 x (List.mem_of_getElem? q))
      have hp : p < (t :: r).length := by
        refine Classical.byContradiction fun c => ?_
        rw [List.getElem?_eq_none (by omega)] at q; exact absurd q (by simp)
      refine ih (p + 1) _ g1 (fun y hy => ?_) ?_ (fun j hj y hy b hb => ?_) (by omega) a
      · rcases (g2 y).1 hy with h | h
        · exact h2 y h
        · have := need_edge (mem_bf.1 h)
          rcases hx with rfl | hx
          · exact this
          · exact need_trans this hx
      · rw [g3]; simp only [List.length_append, List.length_cons] at hp ⊢; omega
      · have hy' : (t :: r)[j]? = some y := by
          rw [g3, ← List.cons_append, List.getElem?_append_left (by omega)] at hy; exact hy
        rw [g2]
        by_cases e : j = p
        · subst e
          rw [q] at hy'
          simp only [Option.some.injEq] at hy'
          subst hy'
          exact .inr (mem_bf.2 hb)
        · exact .inl (h4 j (by omega) y hy' b hb)
def upd (aw : Nat → Nat) (i v : Nat) : Nat → Nat := fun j => if j = i then v else aw j
def vis (f D : Nat) : List Nat → (Nat → Nat) → List Nat → (Nat → Nat) × List Nat
  | [], aw, r => (aw, r)
  | i :: L, aw, r => if i < f ∨ 0 < aw i then vis f D L aw r else vis f D L (upd aw i (D + 1)) (if i = f then r else r ++ [i])
def Fnd (f : Nat) (aw : Nat → Nat) (r : List Nat) : Prop := r.Nodup ∧ (∀ x, x ∈ r ↔ f < x ∧ 0 < aw x) ∧ ∀ x, x < f → aw x = 0
theorem vis_spec (f D : Nat) : ∀ (L : List Nat) (aw : Nat → Nat) (r : List Nat), Fnd f aw r → ∃ t, (vis f D L aw r).2 = r ++ t ∧ Fnd f (vis f D L aw r).1 (r ++ t) ∧
    (∀ x, (vis f D L aw r).1 x = aw x ∨ (aw x = 0 ∧ (vis f D L aw r).1 x = D + 1 ∧ x ∈ L ∧ f ≤ x)) ∧ (∀ x ∈ L, f ≤ x → 0 < (vis f D L aw r).1 x)
  | [], aw, r, h => ⟨[], by simp [vis], by simpa [vis] using h, fun x => .inl rfl, fun x hx => absurd hx (by simp)⟩
  | i :: L, aw, r, h => by
    by_cases q : i < f ∨ 0 < aw i
    · simp only [vis, if_pos q]
      obtain ⟨t, h1, h2, h3, h4⟩ := vis_spec f D L aw r h
      refine ⟨t, h1, h2, fun x => ?_, fun x hx hf => ?_⟩
      · rcases h3 x with e | ⟨a, b, c, d⟩
        · exact .inl e
        · exact .inr ⟨a, b, by simp [c], d⟩
      · rcases List.mem_cons.1 hx with e | e
        · subst e
          rcases h3 x with e | ⟨a, b, c, d⟩
          · omega
          · omega
        · exact h4 x e hf
    · simp only [vis, if_neg q]
      have h' : Fnd f (upd aw i (D + 1)) (if i = f then r else r ++ [i]) := by
        obtain ⟨a, b, c⟩ := h
        by_cases e : i = f
        · rw [if_pos e]
          refine ⟨a, fun x => ?_, fun x hx => ?_⟩
          · rw [b x]; unfold upd; split <;> omega
          · unfold upd; rw [if_neg (by omega)]; exact c x hx
        · rw [if_neg e]
          refine ⟨?_, fun x => ?_, fun x hx => ?_⟩
          · rw [List.nodup_append]
            refine ⟨a, by simp, fun y hy z hz => ?_⟩
            simp only [List.mem_singleton] at hz
            have := (b y).1 hy
            intro e2; rw [hz] at e2; rw [e2] at this; omega
          · rw [List.mem_append, List.mem_singleton, b x]; unfold upd; split <;> omega
          · unfold upd; rw [if_neg (by omega)]; exact c x hx
      obtain ⟨t, h1, h2, h3, h4⟩ := vis_spec f D L _ _ h'
      refine ⟨if i = f then t else i :: t, ?_, ?_, fun x => ?_, fun x hx hf => ?_⟩
      · rw [h1]; split <;> simp
      · have : (if i = f then r else r ++ [i]) ++ t = r ++ (if i = f then t else i :: t) := by split <;> simp
        rw [← this]; exact h2
      · rcases h3 x with e | ⟨a, b, c, d⟩
        · rw [e]
          by_cases e2 : x = i
          · subst e2
            right
            exact ⟨by omega, by simp [upd], by simp, by omega⟩
          · left; simp [upd, e2]
        · have : x ≠ i := fun e2 => by rw [e2] at a; simp [upd] at a
          right
          exact ⟨by simpa [upd, this] using a, b, by simp [c], d⟩
      · rcases List.mem_cons.1 hx with e | e
        · subst e
          rcases h3 x with e | ⟨a, b, c, d⟩
          · rw [e]; simp [upd]
          · omega
        · exact h4 x e hf
def dq (f : Nat) (aw : Nat → Nat) (x : Nat) : Nat := if x = f then 0 else aw x
def bfs (E : List (Nat × Nat)) (f : Nat) : Nat → Nat → (Nat → Nat) → List Nat → (Nat → Nat)
  | 0, _, aw, _ => aw
  | k + 1, p, aw, r => match (f :: r)[p]? with
    | none => aw
    | some x => bfs E f k (p + 1) (vis f (dq f aw x) (bf E x) aw r).1 (vis f (dq f aw x) (bf E x) aw r).2
structure Bv (E : List (Nat × Nat)) (f p : Nat) (aw : Nat → Nat) (r : List Nat) : Prop where
  fnd : Fnd f aw r
  sound : ∀ i j, aw i = j + 1 → Wy E (fun x => f < x) j i f
  sorted : ∀ u v x y : Nat, u ≤ v → (f :: r)[u]? = some x → (f :: r)[v]? = some y → dq f aw x ≤ dq f aw y
  near : ∀ x : Nat, (f :: r)[p]? = some x → (∀ y ∈ r, aw y ≤ dq f aw x + 1) ∧ aw f ≤ dq f aw x + 1
  doneq : ∀ u x : Nat, u < p → (f :: r)[u]? = some x → ∀ i, (i, x) ∈ E → f ≤ i → 0 < aw i ∧ aw i ≤ dq f aw x + 1
theorem inv_step {E : List (Nat × Nat)} {f p : Nat} {aw : Nat → Nat} {r : List Nat} (h : Bv E f p aw r) {x : Nat} (hx : (f :: r)[p]? = some x) :
    Bv E f (p + 1) (vis f (dq f aw x) (bf E x) aw r).1 (vis f (dq f aw x) (bf E x) aw r).2 := by
  obtain ⟨t, h1, h2, h3, h4⟩ := vis_spec f (dq f aw x) (bf E x) aw r h.fnd
  have hp : p < (f :: r).length := by
    refine Classical.byContradiction fun c => ?_
    rw [List.getElem?_eq_none (by omega)] at hx; exact absurd hx (by simp)
  rw [h1]
  generalize hA : (vis f (dq f aw x) (bf E x) aw r).1 = A at h2 h3 h4 ⊢
  have keep : ∀ y, y = f ∨ y ∈ r → dq f A y = dq f aw y := fun y hy => by
    unfold dq
    split
    · rfl
    · rcases hy with e | e
      · contradiction
      · have := ((h.fnd.2.1 y).1 e).2
        rcases h3 y with e | ⟨a, _⟩
        · exact e
        · omega
  have new : ∀ y ∈ t, dq f A y = dq f aw x + 1 ∧ A y = dq f aw x + 1 := fun y hy => by
    have hm := (h2.2.1 y).1 (List.mem_append_right r hy)
    have hr : y ∉ r := fun q => (List.nodup_append.1 h2.1).2.2 y q y hy rfl
    have h0 : ¬ (f < y ∧ 0 < aw y) := fun q => hr ((h.fnd.2.1 y).2 q)
    have e : A y = dq f aw x + 1 := by
      rcases h3 y with e | ⟨a, b, _⟩
      · omega
      · exact b
    refine ⟨?_, e⟩
    unfold dq; rw [if_neg (by omega)]; exact e
  have old : ∀ u y, (f :: (r ++ t))[u]? = some y → (u < (f :: r).length ∧ (f :: r)[u]? = some y ∧ (y = f ∨ y ∈ r)) ∨ ((f :: r).length ≤ u ∧ y ∈ t) := fun u y hu => by
    rw [← List.cons_append] at hu
    by_cases c : u < (f :: r).length
    · rw [List.getElem?_append_left c] at hu
      exact .inl ⟨c, hu, by have := List.mem_of_getElem? hu; simpa using this⟩
    · rw [List.getElem?_append_right (by omega)] at hu
      exact .inr ⟨by omega, List.mem_of_getElem? hu⟩
  have nx := h.near x hx
  have top : ∀ y, y = f ∨ y ∈ r → dq f aw y ≤ dq f aw x + 1 := fun y hy => by
    rcases hy with rfl | hy
    · simp [dq]
    · have := nx.1 y hy
      unfold dq at this ⊢
      split
      · omega
      · exact this
  have kx : dq f A x = dq f aw x := keep x (by have := List.mem_of_getElem? hx; simpa using this)
  refine ⟨h2, fun i j e => ?_, fun u v y z huv hy hz => ?_, fun y hy => ?_, fun u y hu hy i hi hf => ?_⟩
  · rcases h3 i with q | ⟨a, b, c, d⟩
    · exact h.sound i j (by omega)
    · have hE := mem_bf.1 c
      by_cases ex : x = f
      · have : j = 0 := by
          have : dq f aw x = 0 := by simp [dq, ex]
          omega
        subst this; rw [← ex]; exact hE
      · have hd : dq f aw x = aw x := by simp [dq, ex]
        have hxr : x ∈ r := by have := List.mem_of_getElem? hx; simpa [ex] using this
        have hx2 := (h.fnd.2.1 x).1 hxr
        obtain ⟨m, hm⟩ : ∃ m, aw x = m + 1 := ⟨aw x - 1, by omega⟩
        have : j = m + 1 := by omega
        subst this
        exact ⟨x, hE, hx2.1, h.sound x m hm⟩
  · rcases old u y hy with ⟨a, b, c⟩ | ⟨a, b⟩
    · rcases old v z hz with ⟨a', b', c'⟩ | ⟨a', b'⟩
      · rw [keep y c, keep z c']; exact h.sorted u v y z huv b b'
      · rw [keep y c, (new z b').1]; exact top y c
    · rcases old v z hz with ⟨a', b', c'⟩ | ⟨a', b'⟩
      · omega
      · rw [(new y b).1, (new z b').1]; exact Nat.le_refl _
  · have ge : dq f aw x ≤ dq f A y := by
      rcases old (p + 1) y hy with ⟨a, b, c⟩ | ⟨a, b⟩
      · rw [keep y c]; exact h.sorted p (p + 1) x y (by omega) hx b
      · rw [(new y b).1]; omega
    refine ⟨fun z hz => ?_, ?_⟩
    · rcases List.mem_append.1 hz with q | q
      · have := nx.1 z q
        rcases h3 z with e | ⟨a, b, _⟩
        · omega
        · omega
      · have := (new z q).2; omega
    · rcases h3 f with e | ⟨a, b, _⟩
      · have := nx.2; omega
      · omega
  · rcases old u y hy with ⟨a, b, c⟩ | ⟨a, b⟩
    · rw [keep y c]
      by_cases eu : u = p
      · subst eu
        rw [hx] at b
        simp only [Option.some.injEq] at b
        subst b
        refine ⟨h4 i (mem_bf.2 hi) hf, ?_⟩
        rcases h3 i with e | ⟨_, e, _⟩
        · rw [e]
          by_cases ei : i = f
          · rw [ei]; exact nx.2
          · have : 0 < aw i := by have := h4 i (mem_bf.2 hi) hf; omega
            exact nx.1 i ((h.fnd.2.1 i).2 ⟨by omega, this⟩)
        · omega
      · have := h.doneq u y (by omega) b i hi hf
        rcases h3 i with e | ⟨e, _⟩
        · omega
        · omega
    · omega
theorem inv_end {E : List (Nat × Nat)} {f p : Nat} {aw : Nat → Nat} {r : List Nat} (h : Bv E f p aw r) (hp : r.length < p) : ∀ i j, f ≤ i → (aw i = j + 1 ↔ Sh E (fun x => f < x) j i f) := by
  have le : ∀ j i, f ≤ i → Wy E (fun x => f < x) j i f → 0 < aw i ∧ aw i ≤ j + 1 := by
    intro j
    induction j with
    | zero => intro i hi w; have := h.doneq 0 f (by omega) rfl i w hi; simpa [dq] using this
    | succ j ih =>
      rintro i hi ⟨c, w1, w2, w3⟩
      obtain ⟨c1, c2⟩ := ih c (Nat.le_of_lt w2) w3
      have hc := (h.fnd.2.1 c).2 ⟨w2, c1⟩
      obtain ⟨u, hu, e⟩ := List.mem_iff_getElem.1 hc
      have := h.doneq (u + 1) c (by omega) (by rw [List.getElem?_cons_succ, List.getElem?_eq_getElem hu, e]) i w1 hi
      have hd : dq f aw c = aw c := by unfold dq; rw [if_neg (by omega)]
      omega
  intro i j hi
  constructor
  · intro e
    exact ⟨h.sound i j e, fun m hm w => by have := le m i hi w; omega⟩
  · rintro ⟨w, s⟩
    obtain ⟨a, b⟩ := le j i hi w
    obtain ⟨m, hm⟩ : ∃ m, aw i = m + 1 := ⟨aw i - 1, by omega⟩
    have := h.sound i m hm
    have : ¬ m < j := fun q => s m q this
    omega
theorem inv_init (E : List (Nat × Nat)) (f : Nat) : Bv E f 0 (fun _ => 0) [] :=
  ⟨⟨List.nodup_nil, by simp, by simp⟩, fun i j e => absurd e (by simp), fun u v x y _ hu hv => by
    cases u with
    | zero => simp only [List.getElem?_cons_zero, Option.some.injEq] at hu; simp [dq, ← hu]
    | succ u => simp at hu, fun x _ => by simp, fun u x hu => by omega⟩
theorem bfs_spec {E : List (Nat × Nat)} {n f : Nat} (hE : ∀ p ∈ E, p.1 < n ∧ p.2 < n) : ∀ (k p : Nat) (aw : Nat → Nat) (r : List Nat), Bv E f p aw r → n + 2 ≤ k + p → ∀ i j, f ≤ i → (bfs E f k p aw r i = j + 1 ↔ Sh E (fun x => f < x) j i f) := by
  have lim : ∀ {p : Nat} {aw : Nat → Nat} {r : List Nat}, Bv E f p aw r → r.length ≤ n := fun {p aw r} h => few n r h.fnd.1 fun x hx => by
    have h2 := (h.fnd.2.1 x).1 hx
    obtain ⟨m, hm⟩ : ∃ m, aw x = m + 1 := ⟨aw x - 1, by omega⟩
    have := h.sound x m hm
    cases m with
    | zero => exact (hE _ this).1
    | succ m => obtain ⟨c, h3, _⟩ := this; exact (hE _ h3).1
  intro k
  induction k with
  | zero => intro p aw r h hk; exact inv_end h (by have := lim h; omega)
  | succ k ih =>
    intro p aw r h hk
    simp only [bfs]
    cases q : (f :: r)[p]? with
    | none =>
      simp only
      rw [List.getElem?_eq_none_iff, List.length_cons] at q
      exact inv_end h (by omega)
    | some x => exact ih (p + 1) _ _ (inv_step h q) (by omega)
theorem sh_step {E : List (Nat × Nat)} {S : Nat → Prop} {j a b : Nat} (h : Sh E S (j + 1) a b) : ∃ c, (a, c) ∈ E ∧ S c ∧ Sh E S j c b := by
  obtain ⟨⟨c, h1, h2, h3⟩, h4⟩ := h
  exact ⟨c, h1, h2, h3, fun i hi w => h4 (i + 1) (by omega) ⟨c, h1, h2, w⟩⟩
theorem sh_inj {E : List (Nat × Nat)} {S : Nat → Prop} {i j a b : Nat} (h : Sh E S i a b) (k : Sh E S j a b) : i = j := by
  have p : ¬ i < j := fun q => k.2 i q h.1
  have q : ¬ j < i := fun q => h.2 j q k.1
  omega
theorem sh_len {E : List (Nat × Nat)} {n : Nat} {S : Nat → Prop} (hE : ∀ p ∈ E, p.1 < n ∧ p.2 < n) {b : Nat} : ∀ j a, Sh E S j a b → j < n := by
  have key : ∀ j a, Sh E S j a b → ∃ l : List Nat, l.length = j + 1 ∧ l.Nodup ∧ ∀ x ∈ l, x < n ∧ ∃ i, i ≤ j ∧ Sh E S i x b := by
    intro j
    induction j with
    | zero => intro a h; exact ⟨[a], rfl, by simp, fun x hx => by simp only [List.mem_singleton] at hx; rw [hx]; exact ⟨(hE _ h.1).1, 0, by omega, h⟩⟩
    | succ j ih =>
      intro a h
      obtain ⟨c, h1, _, h3⟩ := sh_step h
      obtain ⟨l, l1, l2, l3⟩ := ih c h3
      refine ⟨a :: l, by simp [l1], List.nodup_cons.2 ⟨fun q => ?_, l2⟩, fun x hx => ?_⟩
      · obtain ⟨_, i, hi, hs⟩ := l3 a q
        have := sh_inj hs h; omega
      · rcases List.mem_cons.1 hx with e | e
        · rw [e]; exact ⟨(hE _ h1).1, j + 1, by omega, h⟩
        · obtain ⟨u, i, hi, hs⟩ := l3 x e
          exact ⟨u, i, by omega, hs⟩
  intro j a h
  obtain ⟨l, l1, l2, l3⟩ := key j a h
  have := few n l l2 fun x hx => (l3 x hx).1
  omega
theorem sh_ex {E : List (Nat × Nat)} {S : Nat → Prop} {a b : Nat} : ∀ j, Wy E S j a b → ∃ i, i ≤ j ∧ Sh E S i a b := by
  intro j
  induction j using Nat.strongRecOn with
  | ind j ih =>
    intro h
    by_cases q : ∃ i, i < j ∧ Wy E S i a b
    · obtain ⟨i, hi, hw⟩ := q
      obtain ⟨i', h1, h2⟩ := ih i hi hw
      exact ⟨i', by omega, h2⟩
    · exact ⟨j, Nat.le_refl _, h, fun i hi hw => q ⟨i, hi, hw⟩⟩
def rcond (tg len : Nat) (st : Nat → Nat) (b : Nat) : Prop := (len = 1 ∧ b = tg) ∨ (1 < len ∧ b ≠ tg ∧ st b + 1 = len)
instance (tg len : Nat) (st : Nat → Nat) (b : Nat) : Decidable (rcond tg len st b) := inferInstanceAs (Decidable (_ ∨ _))
def rnd (tg len : Nat) : List (Nat × Nat) → (Nat → Nat) → (Nat → Nat)
  | [], st => st
  | (a, b) :: L, st => rnd tg len L (if st a = 0 ∧ rcond tg len st b then upd st a len else st)
theorem rcond_upd {tg len : Nat} (hl : 0 < len) {st : Nat → Nat} {a : Nat} (ha : st a = 0) (b : Nat) : rcond tg len (upd st a len) b ↔ rcond tg len st b ∨ False := by
  unfold rcond upd
  by_cases e : b = a
  · subst e; simp only [if_true, ha]
    constructor
    · rintro (h | h)
      · exact .inl (.inl h)
      · omega
    · rintro ((h | h) | h)
      · exact .inl h
      · omega
      · exact h.elim
  · simp only [if_neg e, or_false]
open Classical in
theorem rnd_spec {tg len : Nat} (hl : 0 < len) : ∀ (L : List (Nat × Nat)) (st : Nat → Nat) (x : Nat), rnd tg len L st x = if st x = 0 ∧ ∃ b, (x, b) ∈ L ∧ rcond tg len st b then len else st x
  | [], st, x => by simp [rnd]
  | (a, b) :: L, st, x => by
    simp only [rnd]
    rw [rnd_spec hl L]
    by_cases q : st a = 0 ∧ rcond tg len st b
    · rw [if_pos q]
      have e : ∀ c, rcond tg len (upd st a len) c ↔ rcond tg len st c := fun c => by rw [rcond_upd hl q.1]; simp
      simp only [e]
      by_cases hx : x = a
      · subst hx
        rw [if_neg (by simp [upd]; omega), if_pos ⟨q.1, b, by simp, q.2⟩]; simp [upd]
      · simp only [upd, List.mem_cons, Prod.mk.injEq, hx, false_and, false_or, if_false]
    · rw [if_neg q]
      by_cases hx : x = a
      · subst hx
        by_cases h0 : st x = 0
        · have hb : ¬ rcond tg len st b := fun c => q ⟨h0, c⟩
          have : (∃ c, (x, c) ∈ (x, b) :: L ∧ rcond tg len st c) ↔ ∃ c, (x, c) ∈ L ∧ rcond tg len st c := by
            constructor
            · rintro ⟨c, h1, h2⟩
              rcases List.mem_cons.1 h1 with e | e
              · simp only [Prod.mk.injEq, true_and] at e; rw [e] at h2; exact absurd h2 hb
              · exact ⟨c, e, h2⟩
            · rintro ⟨c, h1, h2⟩; exact ⟨c, by simp [h1], h2⟩
          simp only [this]
        · rw [if_neg (fun c => h0 c.1), if_neg (fun c => h0 c.1)]
      · simp only [List.mem_cons, Prod.mk.injEq, hx, false_and, false_or]
def rnds (E : List (Nat × Nat)) (tg : Nat) : Nat → (Nat → Nat)
  | 0 => fun _ => 0
  | k + 1 => rnd tg (k + 1) E (rnds E tg k)
theorem rnds_spec (E : List (Nat × Nat)) (tg : Nat) : ∀ k, (∀ a, rnds E tg k a ≤ k) ∧ ∀ a j, j < k → (rnds E tg k a = j + 1 ↔ Sh E (fun x => x ≠ tg) j a tg)
  | 0 => ⟨fun a => Nat.le_refl _, fun a j h => by omega⟩
  | k + 1 => by
    obtain ⟨h1, h2⟩ := rnds_spec E tg k
    have none_ : ∀ a, rnds E tg k a = 0 → ∀ i, i < k → ¬ Wy E (fun x => x ≠ tg) i a tg := fun a h0 i hi w => by
      obtain ⟨i', hi', s⟩ := sh_ex i w
      have := (h2 a i' (by omega)).2 s
      omega
    have new : ∀ a, rnds E tg k a = 0 → ((∃ b, (a, b) ∈ E ∧ rcond tg (k + 1) (rnds E tg k) b) ↔ Sh E (fun x => x ≠ tg) k a tg) := fun a h0 => by
      constructor
      · rintro ⟨b, hb, c | c⟩
        · have : k = 0 := by omega
          subst this
          rw [c.2] at hb
          exact ⟨hb, fun i hi => by omega⟩
        · obtain ⟨m, rfl⟩ : ∃ m, k = m + 1 := ⟨k - 1, by omega⟩
          have := (h2 b m (by omega)).1 (by omega)
          exact ⟨⟨b, hb, c.2.1, this.1⟩, none_ a h0⟩
      · intro s
        cases k with
        | zero => exact ⟨tg, s.1, .inl ⟨rfl, rfl⟩⟩
        | succ m =>
          obtain ⟨c, c1, c2, c3⟩ := sh_step s
          exact ⟨c, c1, .inr ⟨by omega, c2, by rw [(h2 c m (by omega)).2 c3]⟩⟩
    refine ⟨fun a => ?_, fun a j hj => ?_⟩
    · simp only [rnds]; rw [rnd_spec (by omega)]; split
      · exact Nat.le_refl _
      · have := h1 a; omega
    · simp only [rnds]; rw [rnd_spec (by omega)]
      by_cases h0 : rnds E tg k a = 0
      · by_cases c : ∃ b, (a, b) ∈ E ∧ rcond tg (k + 1) (rnds E tg k) b
        · rw [if_pos ⟨h0, c⟩]
          have s := (new a h0).1 c
          constructor
          · intro e; have : j = k := by omega
            subst this; exact s
          · intro e; have := sh_inj e s; omega
        · rw [if_neg (fun q => c q.2)]
          constructor
          · intro e; omega
          · intro e
            exfalso
            by_cases q : j = k
            · subst q; exact c ((new a h0).2 e)
            · exact none_ a h0 j (by omega) e.1
      · rw [if_neg (fun q => h0 q.1)]
        by_cases q : j = k
        · subst q
          have := h1 a
          constructor
          · intro e; omega
          · intro e
            obtain ⟨m, hm⟩ : ∃ m, rnds E tg j a = m + 1 := ⟨rnds E tg j a - 1, by omega⟩
            have := (h2 a m (by omega)).1 hm
            have := sh_inj e this
            omega
        · exact h2 a j (by omega)
theorem rnds_all {E : List (Nat × Nat)} {n : Nat} (hE : ∀ p ∈ E, p.1 < n ∧ p.2 < n) (tg a j : Nat) : rnds E tg n a = j + 1 ↔ Sh E (fun _ => True) j a tg := by
  rw [sh_ne]
  constructor
  · intro h
    have := (rnds_spec E tg n).1 a
    exact ((rnds_spec E tg n).2 a j (by omega)).1 h
  · intro h
    exact ((rnds_spec E tg n).2 a j (sh_len hE j a h)).2 h
theorem find_sorted {P : Nat → Bool} : ∀ (n : Nat) (L : List Nat), L.Pairwise (· < ·) → (∀ x ∈ L, x < n) → L.find? P = (List.range n).find? (fun k => decide (k ∈ L) && P k) := by
  intro n L hL hn
  cases h : L.find? P with
  | none =>
    symm
    rw [List.find?_eq_none]
    intro k _
    simp only [Bool.and_eq_true, decide_eq_true_eq, not_and]
    intro hk
    exact List.find?_eq_none.1 h k hk
  | some k =>
    symm
    obtain ⟨h1, xs, bs, h2, h3⟩ := List.find?_eq_some_iff_append.1 h
    have hk := List.mem_of_find?_eq_some h
    rw [List.find?_range_eq_some]
    refine ⟨?_, List.mem_range.2 (hn k hk), fun j hj => ?_⟩
    · simp [hk, h1]
    · simp only [Bool.not_eq_true', Bool.and_eq_false_iff, decide_eq_false_iff_not]
      by_cases q : j ∈ L
      · right
        rw [h2] at q hL
        rcases List.mem_append.1 q with q | q
        · simpa using h3 j q
        · rcases List.mem_cons.1 q with q | q
          · omega
          · have := (List.pairwise_cons.1 (List.pairwise_append.1 hL).2.1).1 j q
            omega
      · exact .inl q
theorem least_nat (p : Nat → Prop) : ∀ n, p n → ∃ m, m ≤ n ∧ p m ∧ ∀ k, k < m → ¬ p k := by
  intro n
  induction n using Nat.strongRecOn with
  | ind n ih =>
    intro h
    by_cases q : ∃ k, k < n ∧ p k
    · obtain ⟨k, hk, h2⟩ := q
      obtain ⟨m, h3, h4⟩ := ih k hk h2
      exact ⟨m, by omega, h4⟩
    · exact ⟨n, Nat.le_refl _, h, fun k hk h2 => q ⟨k, hk, h2⟩⟩
theorem least_ex {E : List (Nat × Nat)} (h : Cyc E) : ∃ g m, Least E g m := by
  obtain ⟨k, a, w⟩ := h
  obtain ⟨g, _, ⟨a, wa⟩, hg⟩ := least_nat (fun g => ∃ a, Wy E (fun _ => True) g a a) k ⟨a, w⟩
  obtain ⟨m, _, wm, hm⟩ := least_nat (fun m => Wy E (fun _ => True) g m m) a wa
  exact ⟨g, m, wm, fun i a hi w => hg i hi ⟨a, w⟩, fun a ha => hm a ha⟩
def pth (pick : Nat → Nat → Option Nat) : Nat → Nat → List Nat → List Nat
  | 0, _, out => out
  | left + 1, last, out => match pick last (left + 1) with
    | none => pth pick left last out
    | some k => pth pick left k (out ++ [k])
def At (E : List (Nat × Nat)) (g m left last : Nat) : Prop := Sh E (fun _ => True) left last m ∧ ((last = m ∧ left = g) ∨ ∃ i, Wy E (fun _ => True) i m last ∧ i + left + 1 = g)
theorem at_start {E : List (Nat × Nat)} {g m : Nat} (h : Least E g m) : At E g m g m := ⟨⟨h.1, fun i hi w => h.2.1 i m hi w⟩, .inl ⟨rfl, rfl⟩⟩
theorem at_next {E : List (Nat × Nat)} {g m left last k : Nat} (h : At E g m (left + 1) last) (hk : (last, k) ∈ E) : ∃ i, Wy E (fun _ => True) i m k ∧ i + left + 1 = g := by
  rcases h.2 with ⟨e1, e2⟩ | ⟨i, w, e⟩
  · exact ⟨0, by rw [← e1]; exact hk, by omega⟩
  · exact ⟨i + 1, wy_snoc w hk, by omega⟩
def Ok (E : List (Nat × Nat)) (m left last k : Nat) : Prop := (last, k) ∈ E ∧ m < k ∧ Sh E (fun _ => True) left k m
theorem ok_ex {E : List (Nat × Nat)} {g m left last : Nat} (hL : Least E g m) (h : At E g m (left + 1) last) : ∃ k, Ok E m left last k := by
  obtain ⟨c, h1, _, h2⟩ := sh_step h.1
  obtain ⟨i, w, e⟩ := at_next h h1
  exact ⟨c, h1, on_gt hL w h2.1 e, h2⟩
theorem ok_iff_r {E : List (Nat × Nat)} {g m left last k : Nat} (hL : Least E g m) (h : At E g m (left + 1) last) : Ok E m left last k ↔ (last, k) ∈ E ∧ k ≠ m ∧ Sh E (fun _ => True) left k m := by
  constructor
  · rintro ⟨a, b, c⟩; exact ⟨a, by omega, c⟩
  · rintro ⟨a, b, c⟩
    obtain ⟨i, w, e⟩ := at_next h a
    exact ⟨a, on_gt hL w c.1 e, c⟩
theorem ok_iff_p {E : List (Nat × Nat)} {g m left last k : Nat} (hL : Least E g m) (h : At E g m (left + 1) last) : Ok E m left last k ↔ (last, k) ∈ E ∧ m < k ∧ Sh E (fun x => m < x) left k m := by
  constructor
  · rintro ⟨a, b, c⟩
    obtain ⟨i, w, e⟩ := at_next h a
    exact ⟨a, (same_choice hL w e).1 ⟨by omega, c⟩⟩
  · rintro ⟨a, b, c⟩
    obtain ⟨i, w, e⟩ := at_next h a
    obtain ⟨p, q⟩ := (same_choice hL w e).2 ⟨b, c⟩
    exact ⟨a, b, q⟩
def Takes (E : List (Nat × Nat)) (g m : Nat) (pick : Nat → Nat → Option Nat) : Prop := ∀ left last, At E g m (left + 1) last → ∃ k, pick last (left + 1) = some k ∧ Ok E m left last k ∧ ∀ j, j < k → ¬ Ok E m left last j
theorem at_ok {E : List (Nat × Nat)} {g m left last k : Nat} (h : At E g m (left + 1) last) (q : Ok E m left last k) : At E g m left k := ⟨q.2.2, .inr (at_next h q.1)⟩
theorem pth_eq {E : List (Nat × Nat)} {g m : Nat} {p q : Nat → Nat → Option Nat} (hp : Takes E g m p) (hq : Takes E g m q) : ∀ left last out, At E g m left last → pth p left last out = pth q left last out
  | 0, last, out, h => rfl
  | left + 1, last, out, h => by
    obtain ⟨k, k1, k2, k3⟩ := hp left last h
    obtain ⟨j, j1, j2, j3⟩ := hq left last h
    have : k = j := by
      have a : ¬ k < j := fun c => j3 k c k2
      have b : ¬ j < k := fun c => k3 j c j2
      omega
    subst this
    simp only [pth, k1, j1]
    exact pth_eq hp hq left k _ (at_ok h k2)
theorem pth_spec {E : List (Nat × Nat)} {g m : Nat} {p : Nat → Nat → Option Nat} (hp : Takes E g m p) : ∀ left last out, At E g m left last → ∃ t, pth p left last out = out ++ t ∧ t.length = left ∧ t.Nodup ∧ (∀ x ∈ t, m < x ∧ ∃ i, i < left ∧ Sh E (fun _ => True) i x m) ∧ ∀ u a b s, last :: (t ++ [m]) = u ++ a :: b :: s → (a, b) ∈ E
  | 0, last, out, h => ⟨[], by simp [pth], rfl, List.nodup_nil, by simp, fun u a b s e => by
    cases u with
    | nil =>
      simp only [List.nil_append, List.cons.injEq] at e
      rw [← e.1, ← e.2.1]; exact h.1.1
    | cons x u =>
      have := congrArg List.length e
      simp only [List.length_cons, List.length_append, List.length_nil] at this
      omega⟩
  | left + 1, last, out, h => by
    obtain ⟨k, k1, k2, k3⟩ := hp left last h
    obtain ⟨t, t1, t2, t3, t4, t5⟩ := pth_spec hp left k (out ++ [k]) (at_ok h k2)
    simp only [pth, k1]
    refine ⟨k :: t, by rw [t1]; simp, by simp [t2], List.nodup_cons.2 ⟨fun q => ?_, t3⟩, fun x hx => ?_, fun u a b s e => ?_⟩
    · obtain ⟨_, i, hi, s⟩ := t4 k q
      have := sh_inj s k2.2.2; omega
    · rcases List.mem_cons.1 hx with e | e
      · rw [e]; exact ⟨k2.2.1, left, by omega, k2.2.2⟩
      · obtain ⟨a, i, hi, s⟩ := t4 x e
        exact ⟨a, i, by omega, s⟩
    · cases u with
      | nil =>
        simp only [List.nil_append, List.cons_append, List.cons.injEq] at e
        rw [← e.1, ← e.2.1]; exact k2.1
      | cons x u =>
        simp only [List.cons_append, List.cons.injEq] at e
        exact t5 u a b s e.2
def pickP (E : List (Nat × Nat)) (f : Nat) (aw : Nat → Nat) (last left : Nat) : Option Nat := (bh E last).find? fun k => decide (f < k) && decide (aw k = left)
def pickR (E : List (Nat × Nat)) (n m : Nat) (st : Nat → Nat) (last left : Nat) : Option Nat := (List.range n).find? fun k => decide (k ≠ m) && (decide (st k = left) && decide ((last, k) ∈ E))
theorem takes_find {E : List (Nat × Nat)} {n g m : Nat} (hE : ∀ p ∈ E, p.1 < n ∧ p.2 < n) (hL : Least E g m) {pick : Nat → Nat → Option Nat} {P : Nat → Nat → Nat → Bool} (hpk : ∀ last left, pick last (left + 1) = (List.range n).find? (P last left)) (hP : ∀ left last k, At E g m (left + 1) last → (P last left k = true ↔ Ok E m left last k)) : Takes E g m pick := fun left last h => by
  obtain ⟨c, hc⟩ := ok_ex hL h
  rw [hpk]
  cases q : (List.range n).find? (P last left) with
  | none =>
    exfalso
    exact List.find?_eq_none.1 q c (List.mem_range.2 (hE _ hc.1).2) ((hP left last c h).2 hc)
  | some k =>
    rw [List.find?_range_eq_some] at q
    refine ⟨k, rfl, (hP left last k h).1 q.1, fun j hj ho => ?_⟩
    have := q.2.2 j hj
    rw [(hP left last j h).2 ho] at this
    exact absurd this (by decide)
theorem takes_r {E : List (Nat × Nat)} {n g m : Nat} (hE : ∀ p ∈ E, p.1 < n ∧ p.2 < n) (hL : Least E g m) : Takes E g m (pickR E n m (rnds E m n)) :=
  takes_find hE hL (P := fun last left k => decide (k ≠ m) && (decide (rnds E m n k = left + 1) && decide ((last, k) ∈ E))) (fun _ _ => rfl) fun left last k h => by
    rw [ok_iff_r hL h]
    simp only [Bool.and_eq_true, decide_eq_true_eq, rnds_all hE]
    constructor
    · rintro ⟨a, b, c⟩; exact ⟨c, a, b⟩
    · rintro ⟨a, b, c⟩; exact ⟨b, c, a⟩
theorem takes_p {E : List (Nat × Nat)} {n g m : Nat} (hE : ∀ p ∈ E, p.1 < n ∧ p.2 < n) (hs : ∀ i, (bh E i).Pairwise (· < ·)) (hL : Least E g m) {aw : Nat → Nat} (ha : ∀ i j, m ≤ i → (aw i = j + 1 ↔ Sh E (fun x => m < x) j i m)) : Takes E g m (pickP E m aw) :=
  takes_find hE hL (P := fun last left k => decide (k ∈ bh E last) && (decide (m < k) && decide (aw k = left + 1))) (fun last left => find_sorted n _ (hs last) (fun x hx => (hE _ (mem_bh.1 hx)).2)) fun left last k h => by
    rw [ok_iff_p hL h]
    simp only [Bool.and_eq_true, decide_eq_true_eq, mem_bh]
    constructor
    · rintro ⟨a, b, c⟩; exact ⟨a, b, (ha k left (by omega)).1 c⟩
    · rintro ⟨a, b, c⟩; exact ⟨a, b, (ha k left (by omega)).2 c⟩
def Sorted (E : List (Nat × Nat)) : Prop := E.Pairwise fun p q => p.1 < q.1 ∨ (p.1 = q.1 ∧ p.2 < q.2)
theorem bh_sorted {E : List (Nat × Nat)} (h : Sorted E) (i : Nat) : (bh E i).Pairwise (· < ·) := by
  unfold bh
  rw [List.pairwise_map]
  refine List.Pairwise.imp_of_mem ?_ (List.Pairwise.filter _ h)
  intro p q hp hq hpq
  simp only [List.mem_filter, decide_eq_true_eq] at hp hq
  rcases hpq with a | a
  · omega
  · exact a.2
def dist (E : List (Nat × Nat)) (n f : Nat) : Nat → Nat := bfs E f (n + 2) 0 (fun _ => 0) []
def cyc (E : List (Nat × Nat)) (n f : Nat) : List Nat := if dist E n f f = 0 then [] else pth (pickP E f (dist E n f)) (dist E n f f - 1) f [f]
theorem dist_spec {E : List (Nat × Nat)} {n : Nat} (hE : ∀ p ∈ E, p.1 < n ∧ p.2 < n) (f i j : Nat) (h : f ≤ i) : dist E n f i = j + 1 ↔ Sh E (fun x => f < x) j i f := bfs_spec hE (n + 2) 0 _ _ (inv_init E f) (by omega) i j h
theorem pth_len {E : List (Nat × Nat)} {n f : Nat} (hE : ∀ p ∈ E, p.1 < n ∧ p.2 < n) : ∀ left last out, Sh E (fun x => f < x) left last f → (pth (pickP E f (dist E n f)) left last out).length = out.length + left
  | 0, last, out, h => rfl
  | left + 1, last, out, h => by
    obtain ⟨c, c1, c2, c3⟩ := sh_step h
    simp only [pth]
    cases q : pickP E f (dist E n f) last (left + 1) with
    | none =>
      exfalso
      have := List.find?_eq_none.1 q c (mem_bh.2 c1)
      simp only [Bool.and_eq_true, decide_eq_true_eq, not_and] at this
      exact this c2 ((dist_spec hE f c left (by omega)).2 c3)
    | some k =>
      have h1 := List.find?_some q
      simp only [Bool.and_eq_true, decide_eq_true_eq] at h1
      simp only
      rw [pth_len hE left k _ ((dist_spec hE f k left (by omega)).1 h1.2)]
      simp only [List.length_append, List.length_cons, List.length_nil]; omega
theorem cyc_len {E : List (Nat × Nat)} {n : Nat} (hE : ∀ p ∈ E, p.1 < n ∧ p.2 < n) {f j : Nat} (h : Sh E (fun x => f < x) j f f) : (cyc E n f).length = j + 1 := by
  have hd := (dist_spec hE f f j (Nat.le_refl _)).2 h
  unfold cyc
  rw [if_neg (by omega), pth_len hE _ _ _ (by rw [hd]; exact h), hd]
  simp only [List.length_cons, List.length_nil]; omega
theorem cyc_nil {E : List (Nat × Nat)} {n : Nat} (hE : ∀ p ∈ E, p.1 < n ∧ p.2 < n) {f : Nat} (h : ∀ j, ¬ Sh E (fun x => f < x) j f f) : cyc E n f = [] := by
  unfold cyc
  rw [if_pos]
  refine Classical.byContradiction fun c => ?_
  obtain ⟨j, hj⟩ : ∃ j, dist E n f f = j + 1 := ⟨dist E n f f - 1, by omega⟩
  exact h j ((dist_spec hE f f j (Nat.le_refl _)).1 hj)
def sel (E : List (Nat × Nat)) (n : Nat) : List Nat → List Nat → List Nat
  | [], b => b
  | i :: L, b => sel E n L (if cyc E n i ≠ [] ∧ (b = [] ∨ (cyc E n i).length < b.length) then cyc E n i else b)
theorem sel_none {E : List (Nat × Nat)} {n : Nat} (hE : ∀ p ∈ E, p.1 < n ∧ p.2 < n) (h : ¬ Cyc E) : ∀ L, sel E n L [] = []
  | [] => rfl
  | i :: L => by
    have : cyc E n i = [] := cyc_nil hE fun j s => h ⟨j, i, wy_mono (fun _ _ => trivial) _ _ _ s.1⟩
    simp only [sel, this, ne_eq, not_true_eq_false, false_and, if_false]
    exact sel_none hE h L
theorem cyc_alt {E : List (Nat × Nat)} {n : Nat} (hE : ∀ p ∈ E, p.1 < n ∧ p.2 < n) (i : Nat) : cyc E n i = [] ∨ ∃ j, Sh E (fun x => i < x) j i i ∧ (cyc E n i).length = j + 1 := by
  by_cases h : ∃ j, Sh E (fun x => i < x) j i i
  · obtain ⟨j, s⟩ := h; exact .inr ⟨j, s, cyc_len hE s⟩
  · exact .inl (cyc_nil hE fun j s => h ⟨j, s⟩)
theorem sel_after {E : List (Nat × Nat)} {n g m : Nat} (hE : ∀ p ∈ E, p.1 < n ∧ p.2 < n) (hL : Least E g m) : ∀ (L b : List Nat), b.length = g + 1 → sel E n L b = b
  | [], b, _ => rfl
  | i :: L, b, hb => by
    simp only [sel]
    rw [if_neg]
    · exact sel_after hE hL L b hb
    · rintro ⟨h1, h2⟩
      have hb2 : b ≠ [] := fun e => by rw [e] at hb; simp at hb
      rcases cyc_alt hE i with e | ⟨j, s, e⟩
      · exact h1 e
      · have w := wy_mono (T := fun _ => True) (fun _ _ => trivial) _ _ _ s.1
        have : ¬ j < g := fun q => hL.2.1 j i q w
        rcases h2 with h2 | h2
        · exact hb2 h2
        · omega
theorem sel_before {E : List (Nat × Nat)} {n g m : Nat} (hE : ∀ p ∈ E, p.1 < n ∧ p.2 < n) (hL : Least E g m) : ∀ (L R b : List Nat), (∀ i ∈ L, i < m) → (b = [] ∨ g + 1 < b.length) → sel E n (L ++ m :: R) b = cyc E n m
  | [], R, b, _, hb => by
    have s := cyc_len hE (least_restr hL)
    have ne : cyc E n m ≠ [] := fun e => by rw [e] at s; simp at s
    simp only [List.nil_append, sel]
    rw [if_pos ⟨ne, by rcases hb with h | h; exact .inl h; exact .inr (by omega)⟩]
    exact sel_after hE hL R _ s
  | i :: L, R, b, hi, hb => by
    simp only [List.cons_append, sel]
    refine sel_before hE hL L R _ (fun x hx => hi x (by simp [hx])) ?_
    split
    · rename_i h
      rcases cyc_alt hE i with e | ⟨j, s, e⟩
      · exact absurd e h.1
      · right
        have w := wy_mono (T := fun _ => True) (fun _ _ => trivial) _ _ _ s.1
        have h1 : ¬ j < g := fun q => hL.2.1 j i q w
        have h2 : j ≠ g := fun q => hL.2.2 i (hi i (by simp)) (q ▸ w)
        omega
    · exact hb
theorem least_lt {E : List (Nat × Nat)} {n g m : Nat} (hE : ∀ p ∈ E, p.1 < n ∧ p.2 < n) (hL : Least E g m) : m < n := by
  cases g with
  | zero => exact (hE _ hL.1).1
  | succ g => obtain ⟨c, h, _⟩ := hL.1; exact (hE _ h).1
theorem range_split {n m : Nat} (h : m < n) : ∃ R, List.range n = List.range m ++ m :: R := by
  have : m ∈ List.range n := List.mem_range.2 h
  refine ⟨(List.range' (m + 1) (n - m - 1)), ?_⟩
  rw [List.range_eq_range', List.range_eq_range', show n = m + (n - m - 1 + 1) by omega, ← List.range'_append_1, List.range'_succ]
  simp only [Nat.zero_add, show m + (n - m - 1 + 1) - m - 1 = n - m - 1 by omega]
theorem sel_least {E : List (Nat × Nat)} {n g m : Nat} (hE : ∀ p ∈ E, p.1 < n ∧ p.2 < n) (hL : Least E g m) : sel E n (List.range n) [] = cyc E n m := by
  obtain ⟨R, e⟩ := range_split (least_lt hE hL)
  rw [e]
  exact sel_before hE hL _ R [] (fun i hi => List.mem_range.1 hi) (.inl rfl)
theorem cyc_ref {E : List (Nat × Nat)} {n g m : Nat} (hE : ∀ p ∈ E, p.1 < n ∧ p.2 < n) (hs : Sorted E) (hL : Least E g m) : cyc E n m = pth (pickR E n m (rnds E m n)) g m [m] := by
  have hd := (dist_spec hE m m g (Nat.le_refl _)).2 (least_restr hL)
  unfold cyc
  rw [if_neg (by omega), hd, Nat.add_sub_cancel]
  exact pth_eq (takes_p hE (bh_sorted hs) hL fun i j h => dist_spec hE m i j h) (takes_r hE hL) g m [m] (at_start hL)
theorem rnds_least {E : List (Nat × Nat)} {n g m : Nat} (hE : ∀ p ∈ E, p.1 < n ∧ p.2 < n) (hL : Least E g m) : rnds E m n m = g + 1 ∧ ∀ i, i < n → rnds E i n i = 0 ∨ g + 1 ≤ rnds E i n i ∧ (i < m → g + 1 < rnds E i n i) := by
  refine ⟨(rnds_all hE m m g).2 ⟨hL.1, fun i hi w => hL.2.1 i m hi w⟩, fun i _ => ?_⟩
  by_cases h : rnds E i n i = 0
  · exact .inl h
  · right
    obtain ⟨j, hj⟩ : ∃ j, rnds E i n i = j + 1 := ⟨rnds E i n i - 1, by omega⟩
    have s := (rnds_all hE i i j).1 hj
    have h1 : ¬ j < g := fun q => hL.2.1 j i q s.1
    refine ⟨by omega, fun hi => ?_⟩
    have h2 : j ≠ g := fun q => hL.2.2 i hi (q ▸ s.1)
    omega
theorem rnds_none {E : List (Nat × Nat)} {n : Nat} (hE : ∀ p ∈ E, p.1 < n ∧ p.2 < n) (h : ¬ Cyc E) (i : Nat) : rnds E i n i = 0 := by
  refine Classical.byContradiction fun c => ?_
  obtain ⟨j, hj⟩ : ∃ j, rnds E i n i = j + 1 := ⟨rnds E i n i - 1, by omega⟩
  exact h ⟨j, i, ((rnds_all hE i i j).1 hj).1⟩
theorem cyc_good {E : List (Nat × Nat)} {n g m : Nat} (hE : ∀ p ∈ E, p.1 < n ∧ p.2 < n) (hs : Sorted E) (hL : Least E g m) : ∃ t, cyc E n m = m :: t ∧ t.Nodup ∧ (∀ x ∈ t, m < x) ∧ ∀ u a b s, m :: (t ++ [m]) = u ++ a :: b :: s → (a, b) ∈ E := by
  obtain ⟨t, t1, _, t3, t4, t5⟩ := pth_spec (takes_r hE hL) g m [m] (at_start hL)
  exact ⟨t, by rw [cyc_ref hE hs hL, t1]; rfl, t3, fun x hx => (t4 x hx).1, t5⟩
def pass (t : Nat) : List (Nat × Nat) → List Nat → List Nat
  | [], r => r
  | (a, b) :: L, r => pass t L (if (b = t ∨ b ∈ r) ∧ a ∉ r then r ++ [a] else r)
theorem pass_spec {E : List (Nat × Nat)} {t : Nat} : ∀ (L : List (Nat × Nat)) (r : List Nat), (∀ p ∈ L, p ∈ E) → r.Nodup → (∀ a ∈ r, Need E a t) → ∃ u, pass t L r = r ++ u ∧ (r ++ u).Nodup ∧ (∀ a ∈ r ++ u, Need E a t) ∧ (u = [] → ∀ a b, (a, b) ∈ L → b = t ∨ b ∈ r → a ∈ r)
  | [], r, _, h1, h2 => ⟨[], by simp [pass], by simpa using h1, by simpa using h2, fun _ a b h => absurd h (by simp)⟩
  | (a, b) :: L, r, hL, h1, h2 => by
    simp only [pass]
    by_cases q : (b = t ∨ b ∈ r) ∧ a ∉ r
    · rw [if_pos q]
      have hab := hL (a, b) (by simp)
      have na : Need E a t := by
        rcases q.1 with e | e
        · rw [← e]; exact need_edge hab
        · exact need_trans (need_edge hab) (h2 b e)
      obtain ⟨u, u1, u2, u3, u4⟩ := pass_spec L (r ++ [a]) (fun p hp => hL p (by simp [hp])) (by
        rw [List.nodup_append]; refine ⟨h1, by simp, fun x hx y hy => ?_⟩
        simp only [List.mem_singleton] at hy; rw [hy]; exact fun e => q.2 (e ▸ hx)) (fun x hx => by
        rcases List.mem_append.1 hx with h | h
        · exact h2 x h
        · simp only [List.mem_singleton] at h; rw [h]; exact na)
      refine ⟨a :: u, by rw [u1]; simp, by simpa using u2, by simpa using u3, fun e => absurd e (by simp)⟩
    · rw [if_neg q]
      obtain ⟨u, u1, u2, u3, u4⟩ := pass_spec L r (fun p hp => hL p (by simp [hp])) h1 h2
      refine ⟨u, u1, u2, u3, fun e c d hcd hd => ?_⟩
      rcases List.mem_cons.1 hcd with h | h
      · simp only [Prod.mk.injEq] at h
        rw [h.1]
        refine Classical.byContradiction fun c => q ⟨?_, c⟩
        rw [← h.2]; exact hd
      · exact u4 e c d h hd
def clo (E : List (Nat × Nat)) (t : Nat) : Nat → List Nat → List Nat
  | 0, r => r
  | k + 1, r => if (pass t E r).length = r.length then r else clo E t k (pass t E r)
theorem need_len {E : List (Nat × Nat)} {n t : Nat} (hE : ∀ p ∈ E, p.1 < n ∧ p.2 < n) {r : List Nat} (h1 : r.Nodup) (h2 : ∀ a ∈ r, Need E a t) : r.length ≤ n := few n r h1 fun x hx => by
  obtain ⟨c, h3, _⟩ := need_cons (h2 x hx); exact (hE _ h3).1
theorem clo_spec {E : List (Nat × Nat)} {n t : Nat} (hE : ∀ p ∈ E, p.1 < n ∧ p.2 < n) : ∀ (k : Nat) (r : List Nat), r.Nodup → (∀ a ∈ r, Need E a t) → n < k + r.length → (clo E t k r).Nodup ∧ ∀ a, a ∈ clo E t k r ↔ Need E a t
  | 0, r, h1, h2, hk => by have := need_len hE h1 h2; omega
  | k + 1, r, h1, h2, hk => by
    obtain ⟨u, u1, u2, u3, u4⟩ := pass_spec (t := t) E r (fun p hp => hp) h1 h2
    simp only [clo, u1]
    by_cases q : (r ++ u).length = r.length
    · rw [if_pos q]
      have hu : u = [] := by rw [List.length_append] at q; exact List.length_eq_zero_iff.1 (by omega)
      refine ⟨h1, fun a => ⟨h2 a, fun h => ?_⟩⟩
      obtain ⟨j, w⟩ := h
      have main : ∀ j a, Wy E (fun _ => True) j a t → a ∈ r := by
        intro j
        induction j with
        | zero => intro a w; exact u4 hu a t w (.inl rfl)
        | succ j ih =>
          rintro a ⟨c, w1, _, w2⟩
          exact u4 hu a c w1 (.inr (ih c w2))
      exact main j a w
    · rw [if_neg q]
      exact clo_spec hE k _ u2 u3 (by rw [List.length_append] at q ⊢; omega)
theorem needs_same {E : List (Nat × Nat)} {n t : Nat} (hE : ∀ p ∈ E, p.1 < n ∧ p.2 < n) (k : Nat) (hk : n + 2 ≤ k) (j : Nat) (hj : n < j) : (List.range n).filter (fun a => decide (a ∈ srch E t k 0 [])) = (List.range n).filter (fun a => decide (a ∈ clo E t j [])) := by
  refine List.filter_congr fun a _ => ?_
  rw [decide_eq_decide, srch_spec hE k 0 [] List.nodup_nil (by simp) (by omega) (fun j hj => by omega) (by omega) a, (clo_spec hE j [] List.nodup_nil (by simp) (by simpa using hj)).2 a]
end Go.Proofs.Ytecbmcheojolnaa.Gr
namespace Go.Proofs.Ytecbmcheojolnaa.XA
open Go.RowKit Go.Proofs.Ytecbmcheojolnaa.Opens Go.Proofs.Ytecbmcheojolnaa.Gr Go.Proofs.YtecbmcheojolnaaW.PrintWords Go.Proofs.YtecbmcheojolnaaW.PrintLast Go.Proofs.YtecbmcheojolnaaW.PrintMore
set_option linter.unusedVariables false
set_option linter.unusedSimpArgs false
theorem wr {x : Int} (h : -9223372036854775808 ≤ x ∧ x ≤ 9223372036854775807) : wrap64 x = x := by unfold wrap64; omega
theorem rdT_app (p s : List S47) (e : S47) : rd_T47 (p ++ e :: s) (p.length : Int) = e := by
  simp [rd_T47, List.getD_eq_getElem?_getD]
theorem rd_app (p s : List Int) (e : Int) : rd (p ++ e :: s) (p.length : Int) = e := by
  simp [rd, List.getD_eq_getElem?_getD]
theorem len_app {α : Type} (p s : List α) (e : α) : ((p.length : Nat) : Int) < ((p ++ e :: s).length : Int) := by simp; omega
theorem app_snoc {α : Type} (p s : List α) (e : α) : p ++ e :: s = (p ++ [e]) ++ s := by simp
theorem len_snoc {α : Type} (p : List α) (e : α) : ((p ++ [e]).length : Int) = (p.length : Int) + 1 := by simp
theorem Ev.eq {α : Type} {g : Nat → Option α} {r s : α} (h : Ev g r) (e : r = s) : Ev g s := e ▸ h
theorem Ev.const {α : Type} {g : Nat → Option α} {r : α} (h : ∀ k, g k = some r) : Ev g r := ⟨0, fun k _ => h k⟩
theorem Ev.const1 {α : Type} {g : Nat → Option α} {r : α} (h : ∀ k, g (k + 1) = some r) : Ev g r := ⟨1, fun k hk => by
  obtain ⟨m, rfl⟩ : ∃ m, k = m + 1 := ⟨k - 1, by omega⟩
  exact h m⟩

def bad (n : Int) (e : S47) : Bool := !(decide (0 ≤ e.f0) && decide (e.f0 < n) && (decide (0 ≤ e.f1) && decide (e.f1 < n)))
def dup : List S47 → Bool
  | a :: b :: s => (decide (a.f0 > b.f0) || (decide (a.f0 = b.f0) && decide (a.f1 ≥ b.f1))) || dup (b :: s)
  | _ => false
def chk (n : Int) (l : List S47) : Int := if n > 256 then 7 else if n < 0 then 6 else if l.any (bad n) = true then 6 else if dup l = true then 5 else 0
theorem check2 (a b n : Int) (l : List S47) : precedence_Check_2.f a b n l = some (bad n ⟨a, b⟩) := by
  unfold precedence_Check_2.f precedence_Check_1.f bad
  by_cases h1 : 0 ≤ a <;> by_cases h2 : a < n <;> by_cases h3 : 0 ≤ b <;> by_cases h4 : b < n <;> simp [h1, h2, h3, h4]
theorem idx2 (n : Int) (l2 : List S47) : ∀ (s p : List S47), (p ++ s).length ≤ 1000 → ∃ r, Ev (fun k => slices_IndexFunc_2_int_2_int_by_precedence_Check_2.l0 k (p ++ s) ((p ++ s).length : Int) (p.length : Int) n l2) r ∧ decide (r ≥ 0) = s.any (bad n)
  | [], p, hl => ⟨-1, Ev.const1 fun k => by simp only [slices_IndexFunc_2_int_2_int_by_precedence_Check_2.l0]; rw [if_neg (by simp)], by simp⟩
  | e :: s, p, hl => by
    by_cases hb : bad n e = true
    · refine ⟨p.length, Ev.const1 fun k => ?_, by simp [hb]⟩
      simp only [slices_IndexFunc_2_int_2_int_by_precedence_Check_2.l0]
      rw [if_pos (len_app p s e), if_pos (by omega), if_pos (len_app p s e), rdT_app, check2]
      simp only [Option.bind_some, hb, if_true]
    · obtain ⟨r, h, hr⟩ := idx2 n l2 s (p ++ [e]) (by simpa using hl)
      rw [← app_snoc] at h
      refine ⟨r, Ev.step (fun k => ?_) h, by rw [hr]; simp [hb]⟩
      simp only [slices_IndexFunc_2_int_2_int_by_precedence_Check_2.l0]
      rw [if_pos (len_app p s e), if_pos (by omega), if_pos (len_app p s e), rdT_app, check2]
      simp only [Option.bind_some, hb, if_false]
      have : p.length ≤ 1000 := by simp at hl; omega
      rw [wr (by omega), len_snoc]
      simp
theorem dupP (n : Int) : ∀ (s p : List S47) (a : S47), (p ++ a :: s).length ≤ 1000 → Ev (fun k => precedence_Check.l0 k ((p.length : Int) + 1) n (p ++ a :: s)) (if dup (a :: s) = true then 5 else 0)
  | [], p, a, hl => Ev.const1 fun k => by simp only [precedence_Check.l0]; rw [if_neg (by simp)]; simp [dup]
  | b :: s, p, a, hl => by
    have hp : p.length ≤ 1000 := by simp at hl; omega
    have h1 : rd_T47 (p ++ a :: b :: s) ((p.length : Int) + 1) = b := by
      have := rdT_app (p ++ [a]) s b
      rw [len_snoc, List.append_assoc] at this; exact this
    have hlt : ((p.length : Int) + 1) < ((p ++ a :: b :: s).length : Int) := by simp; omega
    have hst : ∀ k, precedence_Check.l0 (k + 1) ((p.length : Int) + 1) n (p ++ a :: b :: s) = if (a.f0 > b.f0) ∨ (a.f0 = b.f0 ∧ a.f1 ≥ b.f1) then some 5 else precedence_Check.l0 k ((p.length : Int) + 1 + 1) n (p ++ a :: b :: s) := fun k => by
      simp only [precedence_Check.l0]
      rw [if_pos hlt, wr (by omega), show (p.length : Int) + 1 - 1 = p.length by omega, if_pos (by omega), if_pos (by omega), if_pos (by omega), rdT_app, h1, wr (by omega)]
      by_cases q1 : a.f0 > b.f0
      · rw [if_pos q1, if_pos (.inl q1)]
      · by_cases q2 : a.f0 = b.f0
        · by_cases q3 : a.f1 ≥ b.f1
          · rw [if_neg q1, if_pos q2, if_pos q3, if_pos (.inr ⟨q2, q3⟩)]
          · rw [if_neg q1, if_pos q2, if_neg q3, if_neg (by rintro (h | h); exact q1 h; exact q3 h.2)]
        · rw [if_neg q1, if_neg q2, if_neg (by rintro (h | h); exact q1 h; exact q2 h.1)]
    by_cases q : (a.f0 > b.f0) ∨ (a.f0 = b.f0 ∧ a.f1 ≥ b.f1)
    · refine Ev.const1 fun k => ?_
      rw [hst, if_pos q]
      rw [if_pos (by simp only [dup, Bool.or_eq_true, Bool.and_eq_true, decide_eq_true_eq]; exact .inl q)]
    · have ih := dupP n s (p ++ [a]) b (by simpa using hl)
      rw [len_snoc] at ih
      rw [← app_snoc] at ih
      refine Ev.step (fun k => by rw [hst, if_neg q]) (Ev.eq ih ?_)
      have : dup (a :: b :: s) = dup (b :: s) := by
        have : (decide (a.f0 > b.f0) || (decide (a.f0 = b.f0) && decide (a.f1 ≥ b.f1))) = false := by
          rw [Bool.eq_false_iff]; simp only [Bool.or_eq_true, Bool.and_eq_true, decide_eq_true_eq, ne_eq]; exact q
        simp only [dup, this, Bool.false_or]
      rw [this]
theorem Check_ev (n : Int) (l : List S47) (hl : l.length ≤ 1000) : Ev (fun k => precedence_Check.f k n l) (chk n l) := by
  unfold precedence_Check.f chk
  by_cases h1 : n > 256
  · exact Ev.const fun k => by rw [if_pos h1, if_pos h1]
  · by_cases h2 : n < 0
    · refine Ev.const1 fun k => ?_
      rw [if_neg h1, if_pos h2, if_neg h1, if_pos h2]; rfl
    · simp only [if_neg h1, if_neg h2]
      obtain ⟨r, hr, hd⟩ := idx2 n l l [] hl
      unfold slices_ContainsFunc_2_int_2_int_by_precedence_Check_2.f slices_IndexFunc_2_int_2_int_by_precedence_Check_2.f
      refine Ev.bind (a := l.any (bad n)) (f := fun k t => precedence_Check.j0 k t n l) ?_ ?_
      · refine Ev.bind (a := r) (f := fun k t => some (decide (t ≥ 0))) hr (Ev.const fun k => ?_)
        rw [hd]
      · by_cases h3 : l.any (bad n) = true
        · rw [if_pos h3, h3]
          exact Ev.const1 fun k => rfl
        · rw [if_neg h3, Bool.eq_false_iff.2 h3]
          refine Ev.step (f := fun k => precedence_Check.l0 k 1 n l) (fun k => rfl) ?_
          cases l with
          | nil => exact Ev.const1 fun k => rfl
          | cons a s => simpa using dupP n s [] a hl
theorem rdup (n : Int) : ∀ (s p : List S47) (a : S47), (p ++ a :: s).length ≤ 1000 → Ev (fun k => rf_Check.l1 k ((p.length : Int) + 1) n (p ++ a :: s)) (if dup (a :: s) = true then 5 else 0)
  | [], p, a, hl => Ev.const1 fun k => by simp only [rf_Check.l1]; rw [if_neg (by simp)]; simp [dup]
  | b :: s, p, a, hl => by
    have hp : p.length ≤ 1000 := by simp at hl; omega
    have h1 : rd_T47 (p ++ a :: b :: s) ((p.length : Int) + 1) = b := by
      have := rdT_app (p ++ [a]) s b
      rw [len_snoc, List.append_assoc] at this; exact this
    have hlt : ((p.length : Int) + 1) < ((p ++ a :: b :: s).length : Int) := by simp; omega
    have hst : ∀ k, rf_Check.l1 (k + 1) ((p.length : Int) + 1) n (p ++ a :: b :: s) = if (a.f0 > b.f0) ∨ (a.f0 = b.f0 ∧ a.f1 ≥ b.f1) then some 5 else rf_Check.l1 k ((p.length : Int) + 1 + 1) n (p ++ a :: b :: s) := fun k => by
      simp only [rf_Check.l1]
      rw [if_pos hlt, wr (by omega), show (p.length : Int) + 1 - 1 = p.length by omega, if_pos (by omega), if_pos (by omega), if_pos (by omega), rdT_app, h1, wr (by omega)]
      by_cases q1 : a.f0 > b.f0
      · rw [if_pos q1, if_pos (.inl q1)]
      · by_cases q2 : a.f0 = b.f0
        · by_cases q3 : a.f1 ≥ b.f1
          · rw [if_neg q1, if_pos q2, if_pos q3, if_pos (.inr ⟨q2, q3⟩)]
          · rw [if_neg q1, if_pos q2, if_neg q3, if_neg (by rintro (h | h); exact q1 h; exact q3 h.2)]
        · rw [if_neg q1, if_neg q2, if_neg (by rintro (h | h); exact q1 h; exact q2 h.1)]
    by_cases q : (a.f0 > b.f0) ∨ (a.f0 = b.f0 ∧ a.f1 ≥ b.f1)
    · refine Ev.const1 fun k => ?_
      rw [hst, if_pos q]
      rw [if_pos (by simp only [dup, Bool.or_eq_true, Bool.and_eq_true, decide_eq_true_eq]; exact .inl q)]
    · have ih := rdup n s (p ++ [a]) b (by simpa using hl)
      rw [len_snoc] at ih
      rw [← app_snoc] at ih
      refine Ev.step (fun k => by rw [hst, if_neg q]) (Ev.eq ih ?_)
      have : dup (a :: b :: s) = dup (b :: s) := by
        have : (decide (a.f0 > b.f0) || (decide (a.f0 = b.f0) && decide (a.f1 ≥ b.f1))) = false := by
          rw [Bool.eq_false_iff]; simp only [Bool.or_eq_true, Bool.and_eq_true, decide_eq_true_eq, ne_eq]; exact q
        simp only [dup, this, Bool.false_or]
      rw [this]
theorem rbad (n : Int) : ∀ (s p : List S47), (p ++ s).length ≤ 1000 → Ev (fun k => rf_Check.l0 k (p.length : Int) n (p ++ s)) (if s.any (bad n) = true then 6 else if dup (p ++ s) = true then 5 else 0)
  | [], p, hl => by
    refine Ev.step (f := fun k => rf_Check.l1 k 1 n (p ++ [])) (fun k => ?_) ?_
    · simp only [rf_Check.l0]; rw [if_neg (by simp)]
    · rw [List.append_nil] at hl ⊢
      simp only [List.any_nil, Bool.false_eq_true, if_false]
      cases p with
      | nil => exact Ev.const1 fun k => rfl
      | cons a s => simpa using rdup n s [] a hl
  | e :: s, p, hl => by
    have hp : p.length ≤ 1000 := by simp at hl; omega
    have hst : ∀ k, rf_Check.l0 (k + 1) (p.length : Int) n (p ++ e :: s) = if bad n e = true then some 6 else rf_Check.l0 k ((p.length : Int) + 1) n (p ++ e :: s) := fun k => by
      simp only [rf_Check.l0]
      rw [if_pos (len_app p s e), if_pos (by omega), rdT_app, wr (by omega)]
      unfold bad
      by_cases q1 : e.f0 < 0
      · rw [if_pos q1, if_pos (by simp; omega)]
      · by_cases q2 : e.f0 ≥ n
        · rw [if_neg q1, if_pos q2, if_pos (by simp; omega)]
        · by_cases q3 : e.f1 < 0
          · rw [if_neg q1, if_neg q2, if_pos q3, if_pos (by simp; omega)]
          · by_cases q4 : e.f1 ≥ n
            · rw [if_neg q1, if_neg q2, if_neg q3, if_pos q4, if_pos (by simp; omega)]
            · rw [if_neg q1, if_neg q2, if_neg q3, if_neg q4, if_neg (by simp; omega)]
    by_cases q : bad n e = true
    · exact Ev.const1 fun k => by rw [hst, if_pos q]; simp [q]
    · have ih := rbad n s (p ++ [e]) (by simpa using hl)
      rw [len_snoc, ← app_snoc] at ih
      refine Ev.step (fun k => by rw [hst, if_neg q]) (Ev.eq ih ?_)
      simp [q]
theorem rCheck_ev (n : Int) (l : List S47) (hl : l.length ≤ 1000) : Ev (fun k => rf_Check.f k n l) (chk n l) := by
  unfold rf_Check.f chk
  by_cases h1 : n > 256
  · exact Ev.const fun k => by rw [if_pos h1, if_pos h1]
  · by_cases h2 : n < 0
    · exact Ev.const fun k => by rw [if_neg h1, if_pos h2, if_neg h1, if_pos h2]
    · simp only [if_neg h1, if_neg h2]
      simpa using rbad n l [] hl

def em (p : Nat × Nat) : S47 := ⟨(p.1 : Int), (p.2 : Int)⟩
def emb (E : List (Nat × Nat)) : List S47 := E.map em
def toI (l : List Nat) : List Int := l.map fun x : Nat => (x : Int)
def vI (n : Nat) (g : Nat → Nat) : List Int := (List.range n).map fun i => (g i : Int)
def LI (n : Nat) (f : Nat → List Nat) : List (List Int) := (List.range n).map fun i => toI (f i)
def vB (n : Nat) (g : Nat → Bool) : List Bool := (List.range n).map g
structure Val (n : Nat) (E : List (Nat × Nat)) : Prop where
  le : n ≤ 256
  len : E.length ≤ 1000
  lt : ∀ p ∈ E, p.1 < n ∧ p.2 < n
  sorted : Sorted E
theorem dup_sorted : ∀ (E : List (Nat × Nat)), dup (emb E) = false → Sorted E
  | [], _ => List.Pairwise.nil
  | [p], _ => List.pairwise_singleton _ _
  | p :: q :: E, h => by
    simp only [emb, em, List.map_cons, dup, Bool.or_eq_false_iff, Bool.and_eq_false_iff, decide_eq_false_iff_not] at h
    obtain ⟨⟨h1, h2⟩, h3⟩ := h
    have ih := dup_sorted (q :: E) h3
    have hpq : p.1 < q.1 ∨ (p.1 = q.1 ∧ p.2 < q.2) := by omega
    refine List.pairwise_cons.2 ⟨fun x hx => ?_, ih⟩
    rcases List.mem_cons.1 hx with rfl | hx
    · exact hpq
    · have := (List.pairwise_cons.1 ih).1 x hx
      omega
theorem valid {n : Int} {l : List S47} (hl : l.length ≤ 1000) (h : chk n l = 0) : ∃ (m : Nat) (E : List (Nat × Nat)), n = m ∧ l = emb E ∧ Val m E := by
  unfold chk at h
  by_cases h1 : n > 256
  · rw [if_pos h1] at h; omega
  · rw [if_neg h1] at h
    by_cases h2 : n < 0
    · rw [if_pos h2] at h; omega
    · rw [if_neg h2] at h
      by_cases h3 : l.any (bad n) = true
      · rw [if_pos h3] at h; omega
      · rw [if_neg h3] at h
        by_cases h4 : dup l = true
        · rw [if_pos h4] at h; omega
        · have hb : ∀ e ∈ l, (0 ≤ e.f0 ∧ e.f0 < n) ∧ (0 ≤ e.f1 ∧ e.f1 < n) := fun e he => by
            have := List.any_eq_false.1 (Bool.eq_false_iff.2 h3) e he
            unfold bad at this
            simp only [Bool.not_eq_true, Bool.not_eq_false', Bool.and_eq_true, decide_eq_true_eq] at this
            omega
          have he : l = emb (l.map fun e => (e.f0.toNat, e.f1.toNat)) := by
            unfold emb
            rw [List.map_map]
            conv => lhs; rw [← List.map_id l]
            refine List.map_congr_left fun e he => ?_
            obtain ⟨⟨a, b⟩, c, d⟩ := hb e he
            show e = S47.mk _ _
            cases e; simp only [S47.mk.injEq]; simp only at a b c d ⊢; omega
          refine ⟨n.toNat, l.map fun e => (e.f0.toNat, e.f1.toNat), by omega, he, by omega, by simpa using hl, fun p hp => ?_, dup_sorted _ (by rw [← he]; exact Bool.eq_false_iff.2 h4)⟩
          obtain ⟨e, he, rfl⟩ := List.mem_map.1 hp
          obtain ⟨⟨a, b⟩, c, d⟩ := hb e he
          simp only; omega
theorem sorted_dup : ∀ (E : List (Nat × Nat)), Sorted E → dup (emb E) = false
  | [], _ => rfl
  | [p], _ => rfl
  | p :: q :: E, h => by
    have h1 := (List.pairwise_cons.1 h).1 q (by simp)
    have ih := sorted_dup (q :: E) (List.pairwise_cons.1 h).2
    simp only [emb, em, List.map_cons] at ih ⊢
    simp only [dup, Bool.or_eq_false_iff, Bool.and_eq_false_iff, decide_eq_false_iff_not]
    exact ⟨⟨by omega, by omega⟩, ih⟩
theorem val_chk {n : Nat} {E : List (Nat × Nat)} (h : Val n E) : chk n (emb E) = 0 := by
  unfold chk
  rw [if_neg (by have := h.le; omega), if_neg (by omega), if_neg, if_neg (by rw [sorted_dup E h.sorted]; decide)]
  rw [Bool.not_eq_true, List.any_eq_false]
  intro e he
  obtain ⟨p, hp, rfl⟩ := List.mem_map.1 he
  have := h.lt p hp
  unfold bad em
  simp; omega
theorem vI_len (n : Nat) (g : Nat → Nat) : (vI n g).length = n := by simp [vI]
theorem LI_len (n : Nat) (f : Nat → List Nat) : (LI n f).length = n := by simp [LI]
theorem vB_len (n : Nat) (g : Nat → Bool) : (vB n g).length = n := by simp [vB]
theorem toI_len (l : List Nat) : (toI l).length = l.length := by simp [toI]
theorem em_0 (e : Nat × Nat) : (em e).f0 = (e.1 : Int) := rfl
theorem em_1 (e : Nat × Nat) : (em e).f1 = (e.2 : Int) := rfl
theorem emb_len (E : List (Nat × Nat)) : (emb E).length = E.length := by simp [emb]
theorem emb_app (p s : List (Nat × Nat)) : emb (p ++ s) = emb p ++ emb s := by simp [emb]
theorem toI_app (p s : List Nat) : toI (p ++ s) = toI p ++ toI s := by simp [toI]
theorem rd_vI {n i : Nat} (g : Nat → Nat) (h : i < n) : rd (vI n g) (i : Int) = g i := by
  simp [rd, vI, List.getD_eq_getElem?_getD, h]
theorem rdL_LI {n i : Nat} (f : Nat → List Nat) (h : i < n) : rd_L2 (LI n f) (i : Int) = toI (f i) := by
  simp [rd_L2, LI, List.getD_eq_getElem?_getD, h]
theorem rdB_vB {n i : Nat} (g : Nat → Bool) (h : i < n) : rdOf false (vB n g) (i : Int) = g i := by
  simp [rdOf, vB, List.getD_eq_getElem?_getD, h]
theorem map_set {α : Type} {n i : Nat} (g : Nat → α) (v : α) (h : i < n) : ((List.range n).map g).set i v = (List.range n).map fun j => if j = i then v else g j := by
  apply List.ext_getElem?
  intro j
  rw [List.getElem?_set, List.getElem?_map, List.getElem?_map]
  by_cases hj : j < n
  · rw [List.getElem?_range hj]
    by_cases e : i = j
    · subst e; simp [h]
    · rw [if_neg e]; simp [Ne.symm e]
  · rw [List.getElem?_eq_none (by simpa using hj)]
    simp only [List.length_map, List.length_range, h, if_true, Option.map_none]
    rw [if_neg (by omega)]
theorem set_vI {n i : Nat} (g : Nat → Nat) (v : Nat) (h : i < n) : (vI n g).set ((i : Int)).toNat (v : Int) = vI n (upd g i v) := by
  rw [Int.toNat_natCast]
  unfold vI
  rw [map_set _ _ h]
  refine List.map_congr_left fun j _ => ?_
  unfold upd
  split <;> rfl
theorem set_LI {n i : Nat} (f : Nat → List Nat) (v : List Nat) (h : i < n) : (LI n f).set ((i : Int)).toNat (toI v) = LI n (fun j => if j = i then v else f j) := by
  rw [Int.toNat_natCast]
  unfold LI
  rw [map_set _ _ h]
  refine List.map_congr_left fun j _ => ?_
  show _ = toI (if j = i then v else f j)
  split <;> rfl
theorem set_vB {n i : Nat} (g : Nat → Bool) (v : Bool) (h : i < n) : (vB n g).set ((i : Int)).toNat v = vB n (fun j => if j = i then v else g j) := by
  rw [Int.toNat_natCast]
  exact map_set _ _ h
theorem rep_vI (n : Nat) : List.replicate n (0 : Int) = vI n (fun _ => 0) := by
  unfold vI
  rw [List.map_const' , List.length_range]; rfl
theorem rep_LI (n : Nat) : List.replicate n ([] : List Int) = LI n (fun _ => []) := by
  unfold LI
  rw [List.map_const', List.length_range]; rfl
theorem rep_vB (n : Nat) : List.replicate n false = vB n (fun _ => false) := by
  unfold vB
  rw [List.map_const', List.length_range]
theorem rdT_emb (p s : List (Nat × Nat)) (e : Nat × Nat) : rd_T47 (emb (p ++ e :: s)) (p.length : Int) = em e := by
  rw [emb_app, show emb (e :: s) = em e :: emb s from rfl, ← emb_len p]
  exact rdT_app _ _ _
theorem rd_toI (p s : List Nat) (e : Nat) : rd (toI (p ++ e :: s)) (p.length : Int) = e := by
  rw [toI_app, show toI (e :: s) = (e : Int) :: toI s from rfl, ← toI_len p]
  exact rd_app _ _ _
theorem emb_lt (p s : List (Nat × Nat)) (e : Nat × Nat) : ((p.length : Nat) : Int) < ((emb (p ++ e :: s)).length : Int) := by rw [emb_len]; exact len_app p s e
theorem toI_lt (p s : List Nat) (e : Nat) : ((p.length : Nat) : Int) < ((toI (p ++ e :: s)).length : Int) := by rw [toI_len]; exact len_app p s e

theorem bh_snoc (p : List (Nat × Nat)) (e : Nat × Nat) (i : Nat) : bh (p ++ [e]) i = if i = e.1 then bh p e.1 ++ [e.2] else bh p i := by
  unfold bh
  by_cases h : i = e.1
  · subst h; simp
  · rw [if_neg h]; simp [Ne.symm h]
theorem bf_snoc (p : List (Nat × Nat)) (e : Nat × Nat) (i : Nat) : bf (p ++ [e]) i = if i = e.2 then bf p e.2 ++ [e.1] else bf p i := by
  unfold bf
  by_cases h : i = e.2
  · subst h; simp
  · rw [if_neg h]; simp [Ne.symm h]
theorem bh_len (p : List (Nat × Nat)) (i : Nat) : (bh p i).length ≤ p.length := by
  unfold bh; rw [List.length_map]; exact List.length_filter_le _ _
theorem bf_len (p : List (Nat × Nat)) (i : Nat) : (bf p i).length ≤ p.length := by
  unfold bf; rw [List.length_map]; exact List.length_filter_le _ _
theorem lists_go {n : Nat} : ∀ (s p : List (Nat × Nat)), (p ++ s).length ≤ 1000 → (∀ e ∈ p ++ s, e.1 < n ∧ e.2 < n) →
    Ev (fun k => precedence_listsOf.l0 k (emb (p ++ s)) ((emb (p ++ s)).length : Int) (p.length : Int) (LI n (bh p)) (LI n (bf p))) (LI n (bh (p ++ s)), LI n (bf (p ++ s)))
  | [], p, hl, hE => Ev.const1 fun k => by simp only [precedence_listsOf.l0]; rw [if_neg (by rw [emb_len]; simp)]; simp
  | e :: s, p, hl, hE => by
    have hp : p.length ≤ 1000 := by simp at hl; omega
    obtain ⟨he1, he2⟩ := hE e (by simp)
    have ih := lists_go s (p ++ [e]) (by simpa using hl) (by simpa using hE)
    rw [len_snoc, ← app_snoc] at ih
    refine Ev.step (fun k => ?_) ih
    simp only [precedence_listsOf.l0]
    have h1 := bh_len p e.1
    have h2 := bf_len p e.2
    rw [if_pos (emb_lt p s e), if_pos (by omega), if_pos (emb_lt p s e), rdT_emb]
    rw [em_0, em_1, if_pos (by omega), if_pos (by rw [LI_len]; omega), rdL_LI _ he1, rdL_LI _ he2, if_pos (by rw [toI_len]; omega), if_pos (by omega), if_pos (by rw [LI_len]; omega), if_pos (by rw [toI_len]; omega), wr (by omega)]
    rw [show toI (bh p e.1) ++ [(e.2 : Int)] = toI (bh p e.1 ++ [e.2]) by rw [toI_app]; rfl, show toI (bf p e.2) ++ [(e.1 : Int)] = toI (bf p e.2 ++ [e.1]) by rw [toI_app]; rfl, set_LI _ _ he1, set_LI _ _ he2]
    congr 1
    · unfold LI; refine List.map_congr_left fun j _ => ?_; rw [bh_snoc]
    · unfold LI; refine List.map_congr_left fun j _ => ?_; rw [bf_snoc]
theorem lists_ev {n : Nat} {E : List (Nat × Nat)} (h : Val n E) : Ev (fun k => precedence_listsOf.f k n (emb E)) (LI n (bh E), LI n (bf E)) := by
  have := lists_go E [] h.len h.lt
  refine Ev.congr (fun k => ?_) this
  unfold precedence_listsOf.f
  have := h.le
  rw [if_pos (by omega), if_pos (by omega), Int.toNat_natCast, rep_LI]
  rfl

theorem has_go (x : Nat) : ∀ (s p : List Nat), (p ++ s).length ≤ 100000 → Ev (fun k => rf_has.l0 k (toI (p ++ s)) (x : Int) (p.length : Int)) (decide (x ∈ s))
  | [], p, hl => Ev.const1 fun k => by simp only [rf_has.l0]; rw [if_neg (by rw [toI_len]; simp)]; simp
  | e :: s, p, hl => by
    have hp : p.length ≤ 100000 := by simp at hl; omega
    have hst : ∀ k, rf_has.l0 (k + 1) (toI (p ++ e :: s)) (x : Int) (p.length : Int) = if e = x then some true else rf_has.l0 k (toI (p ++ e :: s)) (x : Int) ((p.length : Int) + 1) := fun k => by
      simp only [rf_has.l0]
      rw [if_pos (toI_lt p s e), if_pos (by omega), rd_toI, wr (by omega)]
      by_cases q : e = x
      · rw [if_pos q, if_pos (by omega)]
      · rw [if_neg q, if_neg (by omega)]
    by_cases q : e = x
    · exact Ev.const1 fun k => by rw [hst, if_pos q]; simp [q]
    · have ih := has_go x s (p ++ [e]) (by simpa using hl)
      rw [len_snoc, ← app_snoc] at ih
      refine Ev.step (fun k => by rw [hst, if_neg q]) (Ev.eq ih ?_)
      simp [Ne.symm q]
theorem has_ev (x : Nat) (l : List Nat) (h : l.length ≤ 100000) : Ev (fun k => rf_has.f k (toI l) (x : Int)) (decide (x ∈ l)) := has_go x l [] h
theorem vI_congr {n : Nat} {f g : Nat → Nat} (h : ∀ j, j < n → f j = g j) : vI n f = vI n g := by
  unfold vI
  exact List.map_congr_left fun j hj => by rw [h j (List.mem_range.1 hj)]
theorem vB_congr {n : Nat} {f g : Nat → Bool} (h : ∀ j, j < n → f j = g j) : vB n f = vB n g := by
  unfold vB
  exact List.map_congr_left fun j hj => h j (List.mem_range.1 hj)
theorem find_at {n : Nat} {f : Nat → Bool} {i : Nat} (hi : i < n) (h : f i = true) (hf : ∀ j, j < i → f j = false) : (List.range n).find? f = some i := by
  rw [List.find?_eq_some_iff_append]
  refine ⟨h, List.range i, (List.range (n - i - 1)).map (i + 1 + ·), ?_, fun a ha => by rw [List.mem_range] at ha; simp [hf a ha]⟩
  rw [show n = i + (1 + (n - i - 1)) by omega, List.range_add, List.range_add]
  simp [Nat.add_assoc]
theorem find_none {n : Nat} {f : Nat → Bool} (hf : ∀ j, j < n → f j = false) : (List.range n).find? f = none := by
  rw [List.find?_eq_none]; intro j hj; rw [List.mem_range] at hj; rw [hf j hj]; decide

section
variable {n : Nat} {E : List (Nat × Nat)}
theorem bh_lt (h : Val n E) (i : Nat) : ∀ x ∈ bh E i, x < n := fun x hx => (h.lt _ (mem_bh.1 hx)).2
theorem bf_lt (h : Val n E) (i : Nat) : ∀ x ∈ bf E i, x < n := fun x hx => (h.lt _ (mem_bf.1 hx)).1
end
theorem same_go : ∀ (s t p q : List Int), p.length = q.length → s.length = t.length → (p ++ s).length ≤ 1000 → Ev (fun k => rf_SameInts.l0 k (p ++ s) (q ++ t) (p.length : Int)) (decide (s = t))
  | [], [], p, q, h1, h2, hl => Ev.const1 fun k => by simp only [rf_SameInts.l0]; rw [if_neg (by simp)]; simp
  | x :: s, y :: t, p, q, h1, h2, hl => by
    have hp : p.length ≤ 1000 := by simp at hl; omega
    have hst : ∀ k, rf_SameInts.l0 (k + 1) (p ++ x :: s) (q ++ y :: t) (p.length : Int) = if x = y then rf_SameInts.l0 k (p ++ x :: s) (q ++ y :: t) ((p.length : Int) + 1) else some false := fun k => by
      simp only [rf_SameInts.l0]
      rw [if_pos (len_app p s x), if_pos (by omega), rd_app, h1, if_pos (len_app q t y), rd_app, ← h1, wr (by omega)]
    by_cases e : x = y
    · have ih := same_go s t (p ++ [x]) (q ++ [y]) (by simp [h1]) (by simpa using h2) (by simpa using hl)
      rw [len_snoc, ← app_snoc, ← app_snoc] at ih
      exact Ev.step (fun k => by rw [hst, if_pos e]) (Ev.eq ih (by simp [e]))
    · exact Ev.const1 fun k => by rw [hst, if_neg e]; simp [e]
theorem Same_ev (a b : List Int) (h : a.length ≤ 1000) : Ev (fun k => rf_SameInts.f k a b) (decide (a = b)) := by
  unfold rf_SameInts.f
  by_cases q : a.length = b.length
  · refine Ev.congr (fun k => by rw [if_pos (by omega)]) ?_
    simpa using same_go a b [] [] rfl q h
  · refine Ev.const fun k => ?_
    rw [if_neg (by omega)]
    have : a ≠ b := fun e => q (by rw [e])
    simp [this]
section
variable {n : Nat} {E : List (Nat × Nat)}
theorem nd1 (h : Val n E) (t p : Nat) (hp : p ≤ 1000) (R : List Bool) : ∀ (s pre r : List Nat), (pre ++ s).length ≤ 1000 → (∀ x ∈ s, x < n) → r.Nodup → (∀ x ∈ r, x < n) →
    Ev (fun k => precedence_needs.l0 k (vB n fun x => decide (x ∈ grow s r)) (toI (t :: grow s r)) ((p : Int) + 1) (LI n (bh E)) (LI n (bf E))) R →
    Ev (fun k => precedence_needs.l1 k (vB n fun x => decide (x ∈ r)) (toI (t :: r)) p (toI (pre ++ s)) ((toI (pre ++ s)).length : Int) (pre.length : Int) (LI n (bh E)) (LI n (bf E))) R
  | [], pre, r, hl, hs, hd, hr, H => by
    refine Ev.step (fun k => ?_) H
    simp only [precedence_needs.l1]
    rw [if_neg (by rw [toI_len]; simp), wr (by omega)]
    rfl
  | e :: s, pre, r, hl, hs, hd, hr, H => by
    have hn := h.le
    have hpre : pre.length ≤ 1000 := by simp at hl; omega
    have he := hs e (by simp)
    have hrl := few n r hd hr
    have hst : ∀ k, precedence_needs.l1 (k + 1) (vB n fun x => decide (x ∈ r)) (toI (t :: r)) p (toI (pre ++ e :: s)) ((toI (pre ++ e :: s)).length : Int) (pre.length : Int) (LI n (bh E)) (LI n (bf E)) = if e ∈ r then precedence_needs.l1 k (vB n fun x => decide (x ∈ r)) (toI (t :: r)) p (toI (pre ++ e :: s)) ((toI (pre ++ e :: s)).length : Int) ((pre.length : Int) + 1) (LI n (bh E)) (LI n (bf E)) else precedence_needs.l1 k (vB n fun x => decide (x ∈ r ++ [e])) (toI (t :: (r ++ [e]))) p (toI (pre ++ e :: s)) ((toI (pre ++ e :: s)).length : Int) ((pre.length : Int) + 1) (LI n (bh E)) (LI n (bf E)) := fun k => by
      simp only [precedence_needs.l1]
      rw [if_pos (toI_lt pre s e), if_pos (by omega), if_pos (toI_lt pre s e), rd_toI, if_pos (by omega), if_pos (by rw [vB_len]; omega), rdB_vB _ he, wr (by omega)]
      by_cases q : e ∈ r
      · rw [if_pos (by simp [q]), if_pos q]
      · rw [if_neg (by simp [q]), if_neg q, if_pos (by rw [toI_len]; simp; omega), set_vB _ _ he]
        rw [show toI (t :: r) ++ [(e : Int)] = toI (t :: (r ++ [e])) by rw [← List.cons_append, toI_app]; rfl]
        have e2 : (vB n fun j => if j = e then true else decide (j ∈ r)) = vB n fun x => decide (x ∈ r ++ [e]) := vB_congr fun j _ => by
          by_cases q : j = e <;> simp [q]
        rw [e2]
    by_cases q : e ∈ r
    · have ih := nd1 h t p hp R s (pre ++ [e]) r (by simpa using hl) (fun x hx => hs x (by simp [hx])) hd hr (by simpa only [grow, if_pos q] using H)
      rw [len_snoc, ← app_snoc] at ih
      exact Ev.step (fun k => by rw [hst, if_pos q]) ih
    · have ih := nd1 h t p hp R s (pre ++ [e]) (r ++ [e]) (by simpa using hl) (fun x hx => hs x (by simp [hx])) (by
        rw [List.nodup_append]
        refine ⟨hd, by simp, fun a ha b hb => ?_⟩
        simp only [List.mem_singleton] at hb
        rw [hb]; exact fun z => q (z ▸ ha)) (fun x hx => by
        rcases List.mem_append.1 hx with z | z
        · exact hr x z
        · simp only [List.mem_singleton] at z; omega) (by simpa only [grow, if_neg q] using H)
      rw [len_snoc, ← app_snoc] at ih
      exact Ev.step (fun k => by rw [hst, if_neg q]) ih
theorem nd0 (h : Val n E) {t : Nat} (ht : t < n) : ∀ (m p : Nat) (r : List Nat), r.Nodup → (∀ x ∈ r, x < n) → p ≤ r.length + 1 → n + 2 ≤ m + p →
    Ev (fun k => precedence_needs.l0 k (vB n fun x => decide (x ∈ r)) (toI (t :: r)) p (LI n (bh E)) (LI n (bf E))) (vB n fun x => decide (x ∈ srch E t m p r))
  | 0, p, r, hd, hr, hp, hm => by have := few n r hd hr; omega
  | m + 1, p, r, hd, hr, hp, hm => by
    have hn := h.le
    have hrl := few n r hd hr
    cases e : (t :: r)[p]? with
    | none =>
      simp only [srch, e]
      rw [List.getElem?_eq_none_iff] at e
      refine Ev.const1 fun k => ?_
      simp only [precedence_needs.l0]
      rw [if_neg (by rw [toI_len]; omega)]
    | some x =>
      simp only [srch, e]
      obtain ⟨hpl, hx⟩ := List.getElem?_eq_some_iff.1 e
      have hxn : x < n := by
        rcases List.mem_cons.1 (hx ▸ List.getElem_mem hpl) with z | z
        · omega
        · exact hr x z
      have hxe : rd (toI (t :: r)) (p : Int) = x := by
        simp only [rd, toI, List.getD_eq_getElem?_getD, Int.toNat_natCast, List.getElem?_map, e]; rfl
      have hb := bf_len E x
      have hlen := h.len
      obtain ⟨g1, g2, u, g3⟩ := grow_spec (bf E x) r hd
      have ih := nd0 h ht m (p + 1) (grow (bf E x) r) g1 (fun y hy => by
        rcases (g2 y).1 hy with z | z
        · exact hr y z
        · exact bf_lt h x y z) (by rw [g3]; simp only [List.length_append, List.length_cons] at hpl ⊢; omega) (by omega)
      have h1 := nd1 h t p (by omega) _ (bf E x) [] r (by simp; omega) (bf_lt h x) hd hr ih
      refine Ev.step (fun k => ?_) h1
      simp only [precedence_needs.l0]
      rw [if_pos (by rw [toI_len]; omega), if_pos (by omega), hxe, if_pos (by omega), if_pos (by rw [LI_len]; omega), rdL_LI _ hxn]
      rfl
theorem needs_ev (h : Val n E) {t : Nat} (ht : t < n) : Ev (fun k => precedence_needs.f k (LI n (bh E)) (LI n (bf E)) t) (vB n fun x => decide (x ∈ srch E t (n + 2) 0 [])) := by
  have hn := h.le
  refine Ev.congr (fun k => ?_) (nd0 h ht (n + 2) 0 [] List.nodup_nil (by simp) (by simp) (by omega))
  unfold precedence_needs.f
  rw [if_pos (by omega), if_pos (by rw [LI_len]; omega), LI_len, Int.toNat_natCast, rep_vB]
  have e2 : vB n (fun _ => false) = vB n fun x => decide (x ∈ ([] : List Nat)) := vB_congr fun j _ => by simp
  rw [e2]; rfl
theorem ind_go (hn : n ≤ 256) (g : Nat → Bool) : ∀ (m i : Nat), i + m = n → Ev (fun k => precedence_indices.l0 k (toI ((List.range i).filter g)) (vB n g) ((vB n g).length : Int) i) (toI ((List.range n).filter g))
  | 0, i, hi => by
    obtain rfl : i = n := by omega
    exact Ev.const1 fun k => by simp only [precedence_indices.l0]; rw [if_neg (by rw [vB_len]; omega)]
  | m + 1, i, hi => by
    have hin : i < n := by omega
    have hfl : ((List.range i).filter g).length ≤ i := by have := List.length_filter_le g (List.range i); rwa [List.length_range] at this
    refine Ev.step (fun k => ?_) (ind_go hn g m (i + 1) (by omega))
    simp only [precedence_indices.l0]
    rw [if_pos (by rw [vB_len]; omega), if_pos (by omega), if_pos (by rw [vB_len]; omega), rdB_vB _ hin, wr (by omega), List.range_succ, List.filter_append]
    by_cases q : g i = true
    · rw [if_pos q, if_pos (by rw [toI_len]; omega)]
      simp only [List.filter_cons, q, if_true, List.filter_nil, toI_app]
      rfl
    · rw [if_neg q]
      simp only [List.filter_cons, q, Bool.false_eq_true, if_false, List.filter_nil, List.append_nil]
      rfl
theorem ind_ev (hn : n ≤ 256) (g : Nat → Bool) : Ev (fun k => precedence_indices.f k (vB n g)) (toI ((List.range n).filter g)) := ind_go hn g n 0 (by omega)
def nds (n : Nat) (E : List (Nat × Nat)) (t : Nat) : List Nat := (List.range n).filter fun a => decide (a ∈ srch E t (n + 2) 0 [])
theorem Needs_ev (h : Val n E) {t : Nat} (ht : t < n) : Ev (fun k => precedence_Needs.f k n (emb E) t) (toI (nds n E t), 0) := by
  unfold precedence_Needs.f
  refine Ev.bind (f := fun k t166 => (if t166 = 0 then (if (t : Int) < 0 then (precedence_Needs.j0 k t true n (emb E)) else (precedence_Needs.j0 k t (decide ((t : Int) ≥ n)) n (emb E))) else (some (([] : List Int), t166)))) (Check_ev n (emb E) (by rw [emb_len]; exact h.len)) ?_
  simp only [val_chk h, if_true]
  simp only [if_neg (show ¬ (t : Int) < 0 by omega), decide_eq_false (show ¬ (t : Int) ≥ n by omega)]
  refine Ev.step (f := fun k => (precedence_listsOf.f k n (emb E)).bind fun bt167 => ((precedence_needs.f k bt167.1 bt167.2 t).bind fun t173 => ((precedence_indices.f k t173).bind fun t176 => (some (t176, (0 : Int)))))) (fun k => rfl) ?_
  refine Ev.bind (f := fun k (bt167 : List (List Int) × List (List Int)) => ((precedence_needs.f k bt167.1 bt167.2 t).bind fun t173 => ((precedence_indices.f k t173).bind fun t176 => (some (t176, (0 : Int)))))) (lists_ev h) ?_
  refine Ev.bind (f := fun k t173 => ((precedence_indices.f k t173).bind fun t176 => (some (t176, (0 : Int))))) (needs_ev h ht) ?_
  exact Ev.bind (f := fun k t176 => (some (t176, (0 : Int)))) (ind_ev h.le _) (Ev.const fun k => rfl)
theorem Needs_range (h : Val n E) {t : Int} (ht : t < 0 ∨ t ≥ n) : Ev (fun k => precedence_Needs.f k n (emb E) t) ([], 6) := by
  unfold precedence_Needs.f
  refine Ev.bind (f := fun k t166 => (if t166 = 0 then (if t < 0 then (precedence_Needs.j0 k t true n (emb E)) else (precedence_Needs.j0 k t (decide (t ≥ n)) n (emb E))) else (some (([] : List Int), t166)))) (Check_ev n (emb E) (by rw [emb_len]; exact h.len)) ?_
  simp only [val_chk h, if_true]
  by_cases q : t < 0
  · simp only [if_pos q]; exact Ev.const1 fun k => rfl
  · simp only [if_neg q, decide_eq_true (show t ≥ n by omega)]; exact Ev.const1 fun k => rfl
end
theorem Needs_bad {m : Int} {l : List S47} (hl : l.length ≤ 1000) (h : chk m l ≠ 0) (t : Int) : Ev (fun k => precedence_Needs.f k m l t) ([], chk m l) := by
  unfold precedence_Needs.f
  refine Ev.bind (f := fun k t166 => (if t166 = 0 then (if t < 0 then (precedence_Needs.j0 k t true m l) else (precedence_Needs.j0 k t (decide (t ≥ m)) m l)) else (some (([] : List Int), t166)))) (Check_ev m l hl) ?_
  simp only [if_neg h]
  exact Ev.const fun k => rfl
section
variable {n : Nat} {E : List (Nat × Nat)}
theorem pass_len (t : Nat) : ∀ (L : List (Nat × Nat)) (r : List Nat), r.length ≤ (pass t L r).length ∧ ((pass t L r).length = r.length → pass t L r = r) ∧ (pass t L r).length ≤ r.length + L.length
  | [], r => ⟨Nat.le_refl _, fun _ => rfl, by simp [pass]⟩
  | (a, b) :: L, r => by
    by_cases q : (b = t ∨ b ∈ r) ∧ a ∉ r
    · simp only [pass, if_pos q]
      have := pass_len t L (r ++ [a])
      simp only [List.length_append, List.length_cons, List.length_nil] at this ⊢
      refine ⟨by omega, fun e => by omega, by omega⟩
    · simp only [pass, if_neg q]
      have := pass_len t L r
      simp only [List.length_cons]
      exact ⟨this.1, this.2.1, by omega⟩
theorem rn1 (m : Int) (t : Nat) (R : List Int) (E : List (Nat × Nat)) : ∀ (s p : List (Nat × Nat)) (r : List Nat) (c : Bool), p ++ s = E → E.length ≤ 1000 → r.length + s.length ≤ 3000 →
    Ev (fun k => rf_Needs.l0 k t (toI (pass t s r)) (c || decide ((pass t s r).length ≠ r.length)) m (emb E)) R → Ev (fun k => rf_Needs.l1 k t (toI r) c (p.length : Int) m (emb E)) R
  | [], p, r, c, he, hl, hr, H => by
    refine Ev.step (fun k => ?_) H
    subst he
    simp only [rf_Needs.l1]
    rw [if_neg (by rw [emb_len]; simp)]
    simp [pass]
  | (a, b) :: s, p, r, c, he, hl, hr, H => by
    have hp : p.length ≤ 1000 := by rw [← he] at hl; simp at hl; omega
    simp only [List.length_cons] at hr
    have nx : ∀ (r' : List Nat) (c' : Bool), r'.length + s.length ≤ 3000 → Ev (fun k => rf_Needs.l0 k t (toI (pass t s r')) (c' || decide ((pass t s r').length ≠ r'.length)) m (emb E)) R → Ev (fun k => rf_Needs.l1 k t (toI r') c' ((p.length : Int) + 1) m (emb E)) R := fun r' c' h1 h2 => by
      have := rn1 m t R E s (p ++ [(a, b)]) r' c' (by simpa using he) hl h1 h2
      rwa [len_snoc] at this
    have yes : (b = t ∨ b ∈ r) ∧ a ∉ r → Ev (fun k => rf_Needs.l1 k t (toI (r ++ [a])) true ((p.length : Int) + 1) m (emb E)) R := fun q => nx _ _ (by simp; omega) (by
      simp only [pass, if_pos q] at H
      have h2 := (pass_len t s (r ++ [a])).1
      simp only [List.length_append, List.length_cons, List.length_nil] at h2
      have e1 : decide ((pass t s (r ++ [a])).length ≠ r.length) = true := decide_eq_true (by omega)
      rw [e1, Bool.or_true] at H
      simpa using H)
    have no : ¬ ((b = t ∨ b ∈ r) ∧ a ∉ r) → Ev (fun k => rf_Needs.l1 k t (toI r) c ((p.length : Int) + 1) m (emb E)) R := fun q => nx _ _ (by omega) (by simpa only [pass, if_neg q] using H)
    have hst : ∀ k, rf_Needs.l1 (k + 1) t (toI r) c (p.length : Int) m (emb E) = if b = t then ((rf_has.f k (toI r) (a : Int)).bind fun t448 => (if t448 = true then (rf_Needs.l1 k t (toI r) c ((p.length : Int) + 1) m (emb E)) else (rf_Needs.l1 k t (toI (r ++ [a])) true ((p.length : Int) + 1) m (emb E)))) else ((rf_has.f k (toI r) (b : Int)).bind fun t452 => (if t452 = true then ((rf_has.f k (toI r) (a : Int)).bind fun t453 => (if t453 = true then (rf_Needs.l1 k t (toI r) c ((p.length : Int) + 1) m (emb E)) else (rf_Needs.l1 k t (toI (r ++ [a])) true ((p.length : Int) + 1) m (emb E)))) else (rf_Needs.l1 k t (toI r) c ((p.length : Int) + 1) m (emb E)))) := fun k => by
      simp only [rf_Needs.l1]
      rw [show emb E = emb (p ++ (a, b) :: s) by rw [he], if_pos (emb_lt p s (a, b)), if_pos (by omega), rdT_emb, em_0, em_1, wr (by omega)]
      have hlt : (toI r).length < 17592186044416 := by rw [toI_len]; omega
      rw [show toI r ++ [(((a, b) : Nat × Nat).1 : Int)] = toI (r ++ [a]) by rw [toI_app]; rfl]
      simp only [if_pos hlt]
      by_cases q : b = t
      · rw [if_pos q, if_pos (show ((b : Nat) : Int) = (t : Int) by omega)]
      · rw [if_neg q, if_neg (show ¬ ((b : Nat) : Int) = (t : Int) by omega)]
    have ha := has_ev a r (by omega)
    have hb := has_ev b r (by omega)
    by_cases q : b = t
    · refine Ev.step (fun k => by rw [hst, if_pos q]) (Ev.bind (f := fun k t448 => (if t448 = true then (rf_Needs.l1 k t (toI r) c ((p.length : Int) + 1) m (emb E)) else (rf_Needs.l1 k t (toI (r ++ [a])) true ((p.length : Int) + 1) m (emb E)))) ha ?_)
      by_cases w : a ∈ r
      · simp only [w, decide_true, if_true]; exact no (fun z => z.2 w)
      · simp only [w, decide_false, Bool.false_eq_true, if_false]; exact yes ⟨.inl q, w⟩
    · refine Ev.step (fun k => by rw [hst, if_neg q]) (Ev.bind (f := fun k t452 => (if t452 = true then ((rf_has.f k (toI r) (a : Int)).bind fun t453 => (if t453 = true then (rf_Needs.l1 k t (toI r) c ((p.length : Int) + 1) m (emb E)) else (rf_Needs.l1 k t (toI (r ++ [a])) true ((p.length : Int) + 1) m (emb E)))) else (rf_Needs.l1 k t (toI r) c ((p.length : Int) + 1) m (emb E)))) hb ?_)
      by_cases v : b ∈ r
      · simp only [v, decide_true, if_true]
        refine Ev.bind (f := fun k t448 => (if t448 = true then (rf_Needs.l1 k t (toI r) c ((p.length : Int) + 1) m (emb E)) else (rf_Needs.l1 k t (toI (r ++ [a])) true ((p.length : Int) + 1) m (emb E)))) ha ?_
        by_cases w : a ∈ r
        · simp only [w, decide_true, if_true]; exact no (fun z => z.2 w)
        · simp only [w, decide_false, Bool.false_eq_true, if_false]; exact yes ⟨.inr v, w⟩
      · simp only [v, decide_false, Bool.false_eq_true, if_false]
        exact no (fun z => z.1.elim q v)
theorem rn2 (hn : n ≤ 256) (l : List S47) {r : List Nat} (hr : r.length ≤ 1000) : ∀ (m i : Nat), i + m = n → Ev (fun k => rf_Needs.l2 k (toI r) (toI ((List.range i).filter fun a => decide (a ∈ r))) i n l) (toI ((List.range n).filter fun a => decide (a ∈ r)))
  | 0, i, hi => by
    obtain rfl : i = n := by omega
    exact Ev.const1 fun k => by simp only [rf_Needs.l2]; rw [if_neg (by omega)]
  | m + 1, i, hi => by
    have hfl : ((List.range i).filter fun a => decide (a ∈ r)).length ≤ i := by have := List.length_filter_le (fun a => decide (a ∈ r)) (List.range i); rwa [List.length_range] at this
    have hst : ∀ k, rf_Needs.l2 (k + 1) (toI r) (toI ((List.range i).filter fun a => decide (a ∈ r))) i n l = (rf_has.f k (toI r) (i : Int)).bind fun t460 => (if t460 = true then (rf_Needs.l2 k (toI r) (toI ((List.range i).filter (fun a => decide (a ∈ r)) ++ [i])) ((i + 1 : Nat) : Int) n l) else (rf_Needs.l2 k (toI r) (toI ((List.range i).filter fun a => decide (a ∈ r))) ((i + 1 : Nat) : Int) n l)) := fun k => by
      simp only [rf_Needs.l2]
      rw [if_pos (by omega), if_pos (by rw [toI_len]; omega), wr (by omega), toI_app]
      rfl
    have ih := rn2 hn l hr m (i + 1) (by omega)
    rw [List.range_succ, List.filter_append] at ih
    refine Ev.step hst (Ev.bind (f := fun k t460 => (if t460 = true then (rf_Needs.l2 k (toI r) (toI ((List.range i).filter (fun a => decide (a ∈ r)) ++ [i])) ((i + 1 : Nat) : Int) n l) else (rf_Needs.l2 k (toI r) (toI ((List.range i).filter fun a => decide (a ∈ r))) ((i + 1 : Nat) : Int) n l))) (has_ev i r (by omega)) ?_)
    by_cases q : i ∈ r
    · simp only [q, decide_true, if_true]
      simpa [q] using ih
    · simp only [q, decide_false, Bool.false_eq_true, if_false]
      simpa [q] using ih
end
section
variable {n : Nat} {E : List (Nat × Nat)}
theorem rn0 (h : Val n E) (t : Nat) : ∀ (m : Nat) (r : List Nat), r.Nodup → (∀ a ∈ r, Need E a t) → n < m + r.length →
    Ev (fun k => rf_Needs.l0 k t (toI r) true n (emb E)) (toI ((List.range n).filter fun a => decide (a ∈ clo E t m r)))
  | 0, r, hd, hr, hm => by have := need_len h.lt hd hr; omega
  | m + 1, r, hd, hr, hm => by
    have hn := h.le
    have hlen := h.len
    have hrl := need_len h.lt hd hr
    refine Ev.step (f := fun k => rf_Needs.l1 k t (toI r) false (([] : List (Nat × Nat)).length : Int) n (emb E)) (fun k => rfl) ?_
    refine rn1 n t _ E E [] r false rfl h.len (by omega) ?_
    have hp := pass_len t E r
    by_cases q : (pass t E r).length = r.length
    · simp only [clo, if_pos q, Bool.false_or]
      rw [decide_eq_false (by simp [q]), hp.2.1 q]
      refine Ev.step (f := fun k => rf_Needs.l2 k (toI r) (toI ((List.range 0).filter fun a => decide (a ∈ r))) ((0 : Nat) : Int) n (emb E)) (fun k => rfl) ?_
      exact rn2 h.le _ (by omega) n 0 (by omega)
    · simp only [clo, if_neg q, Bool.false_or]
      rw [decide_eq_true q]
      obtain ⟨u, hu, h1, h2, h3⟩ := pass_spec (E := E) (t := t) E r (fun p hp => hp) hd hr
      rw [← hu] at h1 h2
      exact rn0 h t m _ h1 h2 (by omega)
theorem rNeeds_ev (h : Val n E) {t : Nat} (ht : t < n) : Ev (fun k => rf_Needs.f k n (emb E) t) (toI (nds n E t)) := by
  unfold rf_Needs.f
  have := rn0 h t (n + 1) [] List.nodup_nil (by simp) (by simp)
  refine Ev.eq this ?_
  unfold nds
  rw [needs_same h.lt (n + 2) (Nat.le_refl _) (n + 1) (by omega)]
theorem edge_go (m : Int) (a b : Nat) : ∀ (s p : List (Nat × Nat)), (p ++ s).length ≤ 1000 → Ev (fun k => rf_Edge.l0 k a b (p.length : Int) m (emb (p ++ s))) (decide ((a, b) ∈ s))
  | [], p, hl => Ev.const1 fun k => by simp only [rf_Edge.l0]; rw [if_neg (by rw [emb_len]; simp)]; simp
  | e :: s, p, hl => by
    have hp : p.length ≤ 1000 := by simp at hl; omega
    have hst : ∀ k, rf_Edge.l0 (k + 1) a b (p.length : Int) m (emb (p ++ e :: s)) = if e = (a, b) then some true else rf_Edge.l0 k a b ((p.length : Int) + 1) m (emb (p ++ e :: s)) := fun k => by
      simp only [rf_Edge.l0]
      rw [if_pos (emb_lt p s e), if_pos (by omega), rdT_emb, em_0, em_1, wr (by omega)]
      by_cases q1 : e.1 = a
      · by_cases q2 : e.2 = b
        · rw [if_pos (by omega), if_pos (by omega), if_pos (Prod.ext q1 q2)]
        · rw [if_pos (by omega), if_neg (by omega), if_neg (fun z => q2 (by rw [z]))]
      · rw [if_neg (by omega), if_neg (fun z => q1 (by rw [z]))]
    by_cases q : e = (a, b)
    · exact Ev.const1 fun k => by rw [hst, if_pos q]; simp [q]
    · have ih := edge_go m a b s (p ++ [e]) (by simpa using hl)
      rw [len_snoc, ← app_snoc] at ih
      refine Ev.step (fun k => by rw [hst, if_neg q]) (Ev.eq ih ?_)
      simp [Ne.symm q]
theorem Edge_ev (h : E.length ≤ 1000) (m : Int) (a b : Nat) : Ev (fun k => rf_Edge.f k m (emb E) a b) (decide ((a, b) ∈ E)) := edge_go m a b E [] h

end
theorem rd_get {l : List Nat} {p x : Nat} (h : l[p]? = some x) : rd (toI l) (p : Int) = x := by
  simp only [rd, toI, List.getD_eq_getElem?_getD, Int.toNat_natCast, List.getElem?_map, h]; rfl
section
variable {n : Nat} {E : List (Nat × Nat)}
theorem cy1 (h : Val n E) (f p x D : Nat) (hp : p ≤ 1000) (hD : D ≤ 100000) (R : List Int) : ∀ (s pre : List Nat) (aw : Nat → Nat) (r : List Nat), (pre ++ s).length ≤ 1000 → (∀ y ∈ s, y < n) → f < n → x < n → (f :: r)[p]? = some x →
    ((x = f ∧ D = 0) ∨ (x ≠ f ∧ aw x = D ∧ 0 < D)) → r.length + s.length ≤ 100000000 →
    (∀ y, aw y ≤ 100001) → Ev (fun k => precedence_cycle.l0 k f (vI n (vis f D s aw r).1) (toI (f :: (vis f D s aw r).2)) ((p : Int) + 1) (LI n (bh E)) (LI n (bf E))) R →
    Ev (fun k => precedence_cycle.l1 k f (vI n aw) (toI (f :: r)) p (toI (pre ++ s)) ((toI (pre ++ s)).length : Int) (pre.length : Int) (LI n (bh E)) (LI n (bf E))) R
  | [], pre, aw, r, hl, hs, hf, hx, hpx, hxD, hr, haw, H => by
    refine Ev.step (fun k => ?_) H
    simp only [precedence_cycle.l1]
    rw [if_neg (by rw [toI_len]; simp), wr (by omega)]
    rfl
  | i :: s, pre, aw, r, hl, hs, hf, hx, hpx, hxD, hr, haw, H => by
    have hn := h.le
    have hpre : pre.length ≤ 1000 := by simp at hl; omega
    have hi := hs i (by simp)
    simp only [List.length_cons] at hr
    have hpl : p < (f :: r).length := by
      refine Classical.byContradiction fun c => ?_
      rw [List.getElem?_eq_none (by omega)] at hpx; cases hpx
    have nx : ∀ (aw' : Nat → Nat) (r' : List Nat), (∃ t, r' = r ++ t ∧ t.length ≤ 1) → (∀ y, aw' y ≤ 100001) → ((x = f ∧ D = 0) ∨ (x ≠ f ∧ aw' x = D ∧ 0 < D)) → vis f D (i :: s) aw r = vis f D s aw' r' →
        Ev (fun k => precedence_cycle.l1 k f (vI n aw') (toI (f :: r')) p (toI (pre ++ i :: s)) ((toI (pre ++ i :: s)).length : Int) ((pre.length : Int) + 1) (LI n (bh E)) (LI n (bf E))) R := fun aw' r' h1 h2 h3 h4 => by
      obtain ⟨t, ht, htl⟩ := h1
      have := cy1 h f p x D hp hD R s (pre ++ [i]) aw' r' (by simpa using hl) (fun y hy => hs y (by simp [hy])) hf hx (by
        rw [ht, ← List.cons_append, List.getElem?_append_left hpl]; exact hpx) h3 (by rw [ht, List.length_append]; omega) h2 (by rw [← h4]; exact H)
      rw [len_snoc, ← app_snoc] at this
      exact this
    have hrd := rd_get hpx
    by_cases q : i < f ∨ 0 < aw i
    · have h2 := nx aw r ⟨[], by simp, by simp⟩ haw hxD (by simp only [vis, if_pos q])
      refine Ev.step (f := fun k => precedence_cycle.j2 k f (vI n aw) (toI (f :: r)) p i (toI (pre ++ i :: s)) ((toI (pre ++ i :: s)).length : Int) (pre.length : Int) true (LI n (bh E)) (LI n (bf E))) (fun k => ?_) (Ev.step (fun k => ?_) h2)
      · simp only [precedence_cycle.l1]
        rw [if_pos (toI_lt pre s i), if_pos (by omega), if_pos (toI_lt pre s i), rd_toI]
        by_cases z : i < f
        · rw [if_pos (by omega)]
        · rw [if_neg (by omega), if_pos (by omega), if_pos (by rw [vI_len]; omega), rd_vI _ hi, decide_eq_true (by omega)]
      · simp only [precedence_cycle.j2, if_true]
        rw [wr (by omega)]
    · have hq1 : ¬ i < f := fun z => q (.inl z)
      have hq2 : aw i = 0 := by omega
      have hix : x ≠ f → i ≠ x := fun z e => by rcases hxD with w | w; exact z w.1; rw [e] at hq2; omega
      have hv : vis f D (i :: s) aw r = vis f D s (upd aw i (D + 1)) (if i = f then r else r ++ [i]) := by simp only [vis, if_neg q]
      have h2 := nx (upd aw i (D + 1)) (if i = f then r else r ++ [i]) (by
        by_cases z : i = f
        · rw [if_pos z]; exact ⟨[], by simp, by simp⟩
        · rw [if_neg z]; exact ⟨[i], rfl, by simp⟩) (fun y => by unfold upd; split; omega; exact haw y) (by
        rcases hxD with w | w
        · exact .inl w
        · refine .inr ⟨w.1, ?_, w.2.2⟩
          unfold upd; rw [if_neg (Ne.symm (hix w.1))]; exact w.2.1) hv
      refine Ev.step (f := fun k => precedence_cycle.j2 k f (vI n aw) (toI (f :: r)) p i (toI (pre ++ i :: s)) ((toI (pre ++ i :: s)).length : Int) (pre.length : Int) false (LI n (bh E)) (LI n (bf E))) (fun k => ?_) (Ev.step (fun k => ?_) h2)
      · simp only [precedence_cycle.l1]
        rw [if_pos (toI_lt pre s i), if_pos (by omega), if_pos (toI_lt pre s i), rd_toI, if_neg (by omega), if_pos (by omega), if_pos (by rw [vI_len]; omega), rd_vI _ hi, hq2, decide_eq_false (by omega)]
      · simp only [precedence_cycle.j2, Bool.false_eq_true, if_false]
        rw [if_pos (by omega), if_pos (by rw [vI_len]; omega)]
        simp only [Option.bind_some]
        have hpush : (if (i : Int) = f then precedence_cycle.l1 k f (vI n (upd aw i (D + 1))) (toI (f :: r)) p (toI (pre ++ i :: s)) ((toI (pre ++ i :: s)).length : Int) (wrap64 ((pre.length : Int) + 1)) (LI n (bh E)) (LI n (bf E)) else if (toI (f :: r)).length < 17592186044416 then precedence_cycle.l1 k f (vI n (upd aw i (D + 1))) (toI (f :: r) ++ [(i : Int)]) p (toI (pre ++ i :: s)) ((toI (pre ++ i :: s)).length : Int) (wrap64 ((pre.length : Int) + 1)) (LI n (bh E)) (LI n (bf E)) else none) = precedence_cycle.l1 k f (vI n (upd aw i (D + 1))) (toI (f :: if i = f then r else r ++ [i])) p (toI (pre ++ i :: s)) ((toI (pre ++ i :: s)).length : Int) ((pre.length : Int) + 1) (LI n (bh E)) (LI n (bf E)) := by
          rw [wr (by omega)]
          by_cases z : i = f
          · rw [if_pos (by omega), if_pos z]
          · rw [if_neg (by omega), if_neg z, if_pos (by rw [toI_len, List.length_cons]; omega)]
            rw [show toI (f :: r) ++ [(i : Int)] = toI (f :: (r ++ [i])) by rw [← List.cons_append, toI_app]; rfl]
        have e1 : (vI n aw).set ((i : Int)).toNat 1 = vI n (upd aw i 1) := set_vI aw 1 hi
        rw [e1, if_pos (by omega), if_pos (by rw [toI_len]; omega), hrd]
        rcases hxD with ⟨w1, w2⟩ | ⟨w1, w2, w3⟩
        · subst w1; subst w2
          rw [if_pos rfl, hpush]
        · rw [if_neg (by omega), if_pos (by omega), if_pos (by rw [vI_len]; omega), rd_vI _ hx]
          have e2 : upd aw i 1 x = D := by unfold upd; rw [if_neg (Ne.symm (hix w1))]; exact w2
          rw [e2, wr (by omega), show (D : Int) + 1 = ((D + 1 : Nat) : Int) by omega, set_vI _ _ hi]
          have e3 : vI n (upd (upd aw i 1) i (D + 1)) = vI n (upd aw i (D + 1)) := vI_congr fun j _ => by unfold upd; split <;> rfl
          rw [e3, hpush]
end
section
variable {n : Nat} {E : List (Nat × Nat)}
theorem vis_le (f D B : Nat) (hD : D + 1 ≤ B) : ∀ (s : List Nat) (aw : Nat → Nat) (r : List Nat), (∀ y, aw y ≤ B) → ∀ y, (vis f D s aw r).1 y ≤ B
  | [], aw, r, h, y => h y
  | i :: s, aw, r, h, y => by
    by_cases q : i < f ∨ 0 < aw i
    · simp only [vis, if_pos q]; exact vis_le f D B hD s aw r h y
    · simp only [vis, if_neg q]; exact vis_le f D B hD s _ _ (fun z => by unfold upd; split; omega; exact h z) y
theorem bv_lt (h : Val n E) {f p : Nat} {aw : Nat → Nat} {r : List Nat} (hB : Bv E f p aw r) : ∀ x ∈ r, x < n := fun x hx => by
  have h2 := (hB.fnd.2.1 x).1 hx
  obtain ⟨m, hm⟩ : ∃ m, aw x = m + 1 := ⟨aw x - 1, by omega⟩
  have := hB.sound x m hm
  cases m with
  | zero => exact (h.lt _ this).1
  | succ m => obtain ⟨c, h3, _⟩ := this; exact (h.lt _ h3).1
theorem cy0 (h : Val n E) {f : Nat} (hf : f < n) (R : List Int) : ∀ (m p : Nat) (aw : Nat → Nat) (r : List Nat), Bv E f p aw r → p ≤ r.length + 1 → n + 2 ≤ m + p → (∀ y, aw y ≤ p) →
    (bfs E f m p aw r f = 0 → R = []) → (bfs E f m p aw r f ≠ 0 → (∀ y, bfs E f m p aw r y ≤ 1000) → Ev (fun k => precedence_cycle.l2 k f (vI n (bfs E f m p aw r)) (toI [f]) ((bfs E f m p aw r f - 1 : Nat) : Int) (LI n (bh E)) (LI n (bf E))) R) →
    Ev (fun k => precedence_cycle.l0 k f (vI n aw) (toI (f :: r)) p (LI n (bh E)) (LI n (bf E))) R
  | 0, p, aw, r, hB, hp, hm, ha, H0, H => by
    have := few n r hB.fnd.1 (bv_lt h hB); omega
  | m + 1, p, aw, r, hB, hp, hm, ha, H0, H => by
    have hn := h.le
    have hrl := few n r hB.fnd.1 (bv_lt h hB)
    cases e : (f :: r)[p]? with
    | none =>
      simp only [bfs, e] at H0 H
      rw [List.getElem?_eq_none_iff] at e
      by_cases q : aw f = 0
      · refine Ev.const1 fun k => ?_
        simp only [precedence_cycle.l0]
        rw [if_neg (by rw [toI_len]; omega), if_pos (by omega), if_pos (by rw [vI_len]; omega), rd_vI _ hf, if_pos (by omega), H0 q]
      · refine Ev.step (fun k => ?_) (H q (fun y => by have := ha y; omega))
        simp only [precedence_cycle.l0]
        rw [if_neg (by rw [toI_len]; omega), if_pos (by omega), if_pos (by rw [vI_len]; omega), rd_vI _ hf, if_neg (by omega)]
        have := ha f
        rw [wr (by omega), show (aw f : Int) - 1 = ((aw f - 1 : Nat) : Int) by omega]
        rfl
    | some x =>
      simp only [bfs, e] at H0 H
      obtain ⟨hpl, hx⟩ := List.getElem?_eq_some_iff.1 e
      have hxn : x < n := by
        rcases List.mem_cons.1 (hx ▸ List.getElem_mem hpl) with z | z
        · omega
        · exact bv_lt h hB x z
      have hD : dq f aw x ≤ p := by unfold dq; split; omega; exact ha x
      have hxD : (x = f ∧ dq f aw x = 0) ∨ (x ≠ f ∧ aw x = dq f aw x ∧ 0 < dq f aw x) := by
        unfold dq
        by_cases z : x = f
        · rw [if_pos z]; exact .inl ⟨z, rfl⟩
        · rw [if_neg z]
          have hxr : x ∈ r := by
            rcases List.mem_cons.1 (hx ▸ List.getElem_mem hpl) with w | w
            · exact absurd w z
            · exact w
          exact .inr ⟨z, rfl, ((hB.fnd.2.1 x).1 hxr).2⟩
      have hb := bf_len E x
      have hlen := h.len
      obtain ⟨t, h1, h2, _, _⟩ := vis_spec f (dq f aw x) (bf E x) aw r hB.fnd
      have ih := cy0 h hf R m (p + 1) (vis f (dq f aw x) (bf E x) aw r).1 (vis f (dq f aw x) (bf E x) aw r).2 (inv_step hB e) (by rw [h1]; simp only [List.length_append, List.length_cons] at hpl ⊢; omega) (by omega) (vis_le f _ (p + 1) (by omega) _ _ _ (fun y => by have := ha y; omega)) H0 H
      have h3 := cy1 h f p x (dq f aw x) (by omega) (by omega) R (bf E x) [] aw r (by simp; omega) (bf_lt h x) hf hxn e hxD (by omega) (fun y => by have := ha y; omega) ih
      refine Ev.step (fun k => ?_) h3
      simp only [precedence_cycle.l0]
      rw [if_pos (by rw [toI_len]; omega), if_pos (by omega), rd_get e, if_pos (by omega), if_pos (by rw [LI_len]; omega), rdL_LI _ hxn]
      rfl
theorem cy3 (h : Val n E) (f : Nat) (aw : Nat → Nat) (haw : ∀ y, aw y ≤ 1000) (left last : Nat) (out : List Nat) (hout : out.length ≤ 100000) (hleft : left ≤ 1000) (R : List Int)
    (H : ∀ k, pickP E f aw last (left + 1) = some k → Ev (fun q => precedence_cycle.l2 q f (vI n aw) (toI (out ++ [k])) left (LI n (bh E)) (LI n (bf E))) R)
    (H0 : pickP E f aw last (left + 1) = none → Ev (fun q => precedence_cycle.l2 q f (vI n aw) (toI out) left (LI n (bh E)) (LI n (bf E))) R) :
    ∀ (s pre : List Nat), pre ++ s = bh E last → (∀ x ∈ pre, (decide (f < x) && decide (aw x = left + 1)) = false) →
    Ev (fun q => precedence_cycle.l3 q f (vI n aw) (toI out) ((left + 1 : Nat) : Int) (toI (pre ++ s)) ((toI (pre ++ s)).length : Int) (pre.length : Int) (LI n (bh E)) (LI n (bf E))) R
  | [], pre, he, hp => by
    refine Ev.step (fun k => ?_) (H0 ?_)
    · simp only [precedence_cycle.l3]
      rw [if_neg (by rw [toI_len]; simp), wr (by omega), show ((left + 1 : Nat) : Int) - 1 = left by omega]
    · unfold pickP
      rw [← he, List.append_nil, List.find?_eq_none]
      intro x hx; rw [hp x hx]; decide
  | e :: s, pre, he, hp => by
    have hlen := bh_len E last
    have hE := h.len
    have hl : (pre ++ e :: s).length ≤ 1000 := by rw [he]; omega
    have hpre : pre.length ≤ 1000 := by simp at hl; omega
    have hen : e < n := bh_lt h last e (by rw [← he]; simp)
    have hst : ∀ q, precedence_cycle.l3 (q + 1) f (vI n aw) (toI out) ((left + 1 : Nat) : Int) (toI (pre ++ e :: s)) ((toI (pre ++ e :: s)).length : Int) (pre.length : Int) (LI n (bh E)) (LI n (bf E)) = if f < e ∧ aw e = left + 1 then precedence_cycle.l2 q f (vI n aw) (toI (out ++ [e])) left (LI n (bh E)) (LI n (bf E)) else precedence_cycle.l3 q f (vI n aw) (toI out) ((left + 1 : Nat) : Int) (toI (pre ++ e :: s)) ((toI (pre ++ e :: s)).length : Int) ((pre.length : Int) + 1) (LI n (bh E)) (LI n (bf E)) := fun q => by
      simp only [precedence_cycle.l3]
      rw [if_pos (toI_lt pre s e), if_pos (by omega), if_pos (toI_lt pre s e), rd_toI, wr (x := (pre.length : Int) + 1) (by omega)]
      by_cases z1 : f < e
      · rw [if_pos (by omega), if_pos (by omega), if_pos (by rw [vI_len]; omega), rd_vI _ hen]
        by_cases z2 : aw e = left + 1
        · rw [if_pos (by omega), if_pos (show (toI out).length < 17592186044416 by rw [toI_len]; omega), if_pos (show f < e ∧ aw e = left + 1 from ⟨z1, z2⟩), wr (by omega), show ((left + 1 : Nat) : Int) - 1 = left by omega, toI_app]
          rfl
        · rw [if_neg (by omega), if_neg (fun w => z2 w.2)]
      · rw [if_neg (by omega), if_neg (fun w => z1 w.1)]
    by_cases z : f < e ∧ aw e = left + 1
    · refine Ev.step (fun q => by rw [hst, if_pos z]) (H e ?_)
      unfold pickP
      rw [← he, List.find?_eq_some_iff_append]
      exact ⟨by simp [z.1, z.2], pre, s, rfl, fun a ha => by simp [hp a ha]⟩
    · have ih := cy3 h f aw haw left last out hout hleft R H H0 s (pre ++ [e]) (by simpa using he) (fun x hx => by
        rcases List.mem_append.1 hx with w | w
        · exact hp x w
        · simp only [List.mem_singleton] at w
          subst w
          rw [Bool.and_eq_false_iff, decide_eq_false_iff_not, decide_eq_false_iff_not]
          exact Classical.or_iff_not_imp_left.2 fun a b => z ⟨Classical.not_not.1 a, b⟩)
      rw [len_snoc, ← app_snoc] at ih
      exact Ev.step (fun q => by rw [hst, if_neg z]) ih
theorem pickP_lt (h : Val n E) {f : Nat} {aw : Nat → Nat} {last left k : Nat} (e : pickP E f aw last left = some k) : k < n := bh_lt h last k (List.mem_of_find?_eq_some e)
theorem cy2 (h : Val n E) (f : Nat) (aw : Nat → Nat) (haw : ∀ y, aw y ≤ 1000) : ∀ (left last : Nat) (o : List Nat), last < n → left ≤ 1000 → o.length + left ≤ 10000 →
    Ev (fun q => precedence_cycle.l2 q f (vI n aw) (toI (o ++ [last])) left (LI n (bh E)) (LI n (bf E))) (toI (pth (pickP E f aw) left last (o ++ [last])))
  | 0, last, o, hl, hL, ho => by
    refine Ev.const1 fun q => ?_
    simp only [precedence_cycle.l2]
    rw [if_neg (by omega), if_pos (by rw [toI_len]; simp)]; rfl
  | left + 1, last, o, hl, hL, ho => by
    have h3 := cy3 h f aw haw left last (o ++ [last]) (by simp; omega) (by omega) (toI (pth (pickP E f aw) (left + 1) last (o ++ [last]))) (fun k hk => by
      simp only [pth, hk]
      exact cy2 h f aw haw left k (o ++ [last]) (pickP_lt h hk) (by omega) (by simp; omega)) (fun hk => by
      simp only [pth, hk]
      exact cy2 h f aw haw left last o hl (by omega) (by omega)) (bh E last) [] rfl (by simp)
    refine Ev.step (fun q => ?_) h3
    simp only [precedence_cycle.l2]
    have e1 : wrap64 (((toI (o ++ [last])).length : Int) - 1) = (o.length : Int) := by rw [toI_len]; simp; rw [wr (by omega)]
    rw [if_pos (by omega), e1, if_pos (by omega), if_pos (by rw [toI_len]; simp; omega), rd_toI, if_pos (by omega), if_pos (by rw [LI_len]; omega), rdL_LI _ hl]
    rfl
theorem cycle_ev (h : Val n E) {f : Nat} (hf : f < n) : Ev (fun k => precedence_cycle.f k (LI n (bh E)) (LI n (bf E)) f) (toI (cyc E n f)) := by
  have hn := h.le
  have h0 := cy0 h hf (toI (cyc E n f)) (n + 2) 0 (fun _ => 0) [] (inv_init E f) (by simp) (by omega) (by simp) (fun e => by unfold cyc dist; rw [if_pos e]; rfl) (fun e hb => by
    unfold cyc dist
    rw [if_neg e]
    exact cy2 h f (bfs E f (n + 2) 0 (fun _ => 0) []) hb (bfs E f (n + 2) 0 (fun _ => 0) [] f - 1) f [] hf (by have := hb f; omega) (by have := hb f; simp; omega))
  refine Ev.congr (fun k => ?_) h0
  unfold precedence_cycle.f
  rw [if_pos (by omega), if_pos (by rw [LI_len]; omega), LI_len, Int.toNat_natCast, rep_vI]
  rfl
theorem toI_nil {l : List Nat} : toI l = [] ↔ l = [] := by unfold toI; exact List.map_eq_nil_iff
theorem best_go (h : Val n E) : ∀ (m i : Nat) (b : List Nat), i + m = n → Ev (fun k => cyc_best k (LI n (bh E)) (LI n (bf E)) m i (toI b)) (toI (sel E n (List.range' i m) b))
  | 0, i, b, hi => Ev.const fun k => rfl
  | m + 1, i, b, hi => by
    have ih := best_go h m (i + 1) (if cyc E n i ≠ [] ∧ (b = [] ∨ (cyc E n i).length < b.length) then cyc E n i else b) (by omega)
    simp only [cyc_best, List.range'_succ, sel]
    refine Ev.bind (f := fun k c => cyc_best k (LI n (bh E)) (LI n (bf E)) m ((i : Int) + 1) (if c = [] then toI b else if toI b = [] then c else if c.length < (toI b).length then c else toI b)) (cycle_ev h (by omega)) ?_
    refine Ev.congr (fun k => ?_) ih
    congr 1
    rw [toI_len, toI_len]
    by_cases q : cyc E n i = []
    · rw [if_pos (toI_nil.2 q), if_neg (fun w => w.1 q)]
    · rw [if_neg (fun w => q (toI_nil.1 w))]
      by_cases z : b = []
      · rw [if_pos (toI_nil.2 z), if_pos ⟨q, .inl z⟩]
      · rw [if_neg (fun w => z (toI_nil.1 w))]
        by_cases w : (cyc E n i).length < b.length
        · rw [if_pos w, if_pos ⟨q, .inr w⟩]
        · rw [if_neg w, if_neg (fun v => v.2.elim z w)]
def bst (n : Nat) (E : List (Nat × Nat)) : List Int × Int := if sel E n (List.range n) [] = [] then ([], 9) else (toI (sel E n (List.range n) []), 0)
theorem Cycle_ev (h : Val n E) : Ev (fun k => precedence_Cycle.f k n (emb E)) (bst n E) := by
  have hn := h.le
  unfold precedence_Cycle.f
  refine Ev.bind (f := fun k t => if t = 0 then ((precedence_listsOf.f k n (emb E)).bind fun p => if 0 ≤ (n : Int) ∧ (n : Int) ≤ 256 then (cyc_best k p.1 p.2 (n : Int).toNat 0 []).bind fun b => (if b = [] then some ([], (9 : Int)) else some (b, (0 : Int))) else none) else some ([], t)) (Check_ev n (emb E) (by rw [emb_len]; exact h.len)) ?_
  simp only [val_chk h, if_true]
  refine Ev.bind (f := fun k (p : List (List Int) × List (List Int)) => if 0 ≤ (n : Int) ∧ (n : Int) ≤ 256 then (cyc_best k p.1 p.2 (n : Int).toNat 0 []).bind fun b => (if b = [] then some ([], (9 : Int)) else some (b, (0 : Int))) else none) (lists_ev h) ?_
  simp only [if_pos (show 0 ≤ (n : Int) ∧ (n : Int) ≤ 256 by omega), Int.toNat_natCast]
  have hb := best_go h n 0 [] (by omega)
  rw [← List.range_eq_range'] at hb
  refine Ev.bind (f := fun k b => (if b = [] then some ([], (9 : Int)) else some (b, (0 : Int)))) hb (Ev.const fun k => ?_)
  unfold bst
  by_cases q : sel E n (List.range n) [] = []
  · rw [if_pos (toI_nil.2 q), if_pos q]
  · rw [if_neg (fun w => q (toI_nil.1 w)), if_neg q]
end
theorem Cycle_bad {m : Int} {l : List S47} (hl : l.length ≤ 1000) (h : chk m l ≠ 0) : Ev (fun k => precedence_Cycle.f k m l) ([], chk m l) := by
  unfold precedence_Cycle.f
  refine Ev.bind (f := fun k t => if t = 0 then ((precedence_listsOf.f k m l).bind fun p => if 0 ≤ m ∧ m ≤ 256 then (cyc_best k p.1 p.2 m.toNat 0 []).bind fun b => (if b = [] then some ([], (9 : Int)) else some (b, (0 : Int))) else none) else some ([], t)) (Check_ev m l hl) ?_
  simp only [if_neg h]
  exact Ev.const fun k => rfl
def sg (x : Nat) : Int := if x = 0 then -1 else (x : Int)
def sI (n : Nat) (g : Nat → Nat) : List Int := (List.range n).map fun i => sg (g i)
theorem sI_len (n : Nat) (g : Nat → Nat) : (sI n g).length = n := by simp [sI]
theorem rd_sI {n i : Nat} (g : Nat → Nat) (h : i < n) : rd (sI n g) (i : Int) = sg (g i) := by
  simp [rd, sI, List.getD_eq_getElem?_getD, h]
theorem set_sI {n i : Nat} (g : Nat → Nat) (v : Nat) (h : i < n) (hv : 0 < v) : (sI n g).set ((i : Int)).toNat (v : Int) = sI n (upd g i v) := by
  rw [Int.toNat_natCast]
  unfold sI
  rw [map_set _ _ h]
  refine List.map_congr_left fun j _ => ?_
  dsimp only [upd]
  split
  · unfold sg; rw [if_neg (by omega)]
  · rfl
theorem sg_neg (x : Nat) : sg x < 0 ↔ x = 0 := by unfold sg; split <;> omega
theorem sg_pos (x : Nat) : 0 < sg x ↔ 0 < x := by unfold sg; split <;> omega
theorem sg_eq (x y : Nat) (h : 0 < y) : sg x = (y : Int) ↔ x = y := by unfold sg; split <;> omega
section
variable {n : Nat} {E : List (Nat × Nat)}
theorem st2 (h : Val n E) (tt len : Nat) (hl : 0 < len ∧ len ≤ 1000) (R : List Int) : ∀ (s p : List (Nat × Nat)) (st : Nat → Nat), p ++ s = E →
    Ev (fun k => rf_steps.l1 k tt (sI n (rnd tt len s st)) ((len : Int) + 1) n (emb E)) R → Ev (fun k => rf_steps.l2 k tt (sI n st) len (p.length : Int) n (emb E)) R
  | [], p, st, he, H => by
    refine Ev.step (fun k => ?_) H
    subst he
    simp only [rf_steps.l2]
    rw [if_neg (by rw [emb_len]; simp), wr (by omega)]
    rfl
  | (a, b) :: s, p, st, he, H => by
    have hp : p.length ≤ 1000 := by have := h.len; rw [← he] at this; simp at this; omega
    obtain ⟨ha, hb⟩ := h.lt (a, b) (by rw [← he]; simp)
    dsimp only at ha hb
    have hst : ∀ k, rf_steps.l2 (k + 1) tt (sI n st) len (p.length : Int) n (emb E) = if st a = 0 ∧ rcond tt len st b then rf_steps.l2 k tt (sI n (upd st a len)) len ((p.length : Int) + 1) n (emb E) else rf_steps.l2 k tt (sI n st) len ((p.length : Int) + 1) n (emb E) := fun k => by
      simp only [rf_steps.l2]
      rw [show emb E = emb (p ++ (a, b) :: s) by rw [he], if_pos (emb_lt p s (a, b)), if_pos (by omega), rdT_emb, em_0, em_1, wr (x := (p.length : Int) + 1) (by omega), wr (x := (len : Int) - 1) (by omega)]
      dsimp only
      have e0 : 0 ≤ (a : Int) := by omega
      have e1 : (a : Int) < ((sI n st).length : Int) := by rw [sI_len]; omega
      have e2 : 0 ≤ (b : Int) := by omega
      have e3 : (b : Int) < ((sI n st).length : Int) := by rw [sI_len]; omega
      simp only [if_pos e0, if_pos e1, if_pos e2, if_pos e3, rd_sI _ ha, rd_sI _ hb, set_sI _ _ ha hl.1]
      by_cases z : st a = 0
      · rw [if_pos ((sg_neg _).2 z)]
        by_cases w1 : len = 1
        · rw [if_pos (by omega)]
          by_cases w2 : b = tt
          · rw [if_pos (by omega), if_pos ⟨z, .inl ⟨w1, w2⟩⟩]
          · rw [if_neg (by omega), if_neg (by omega), if_neg (by rintro ⟨_, c | c⟩; exact w2 c.2; omega)]
        · rw [if_neg (by omega), if_pos (by omega)]
          by_cases w2 : b = tt
          · rw [if_pos (by omega), if_neg (by rintro ⟨_, c | c⟩; exact w1 c.1; exact c.2.1 w2)]
          · rw [if_neg (by omega)]
            by_cases w3 : st b + 1 = len
            · rw [if_pos (show sg (st b) = (len : Int) - 1 by rw [show (len : Int) - 1 = ((st b : Nat) : Int) by omega, sg_eq _ _ (by omega)]), if_pos ⟨z, .inr ⟨by omega, w2, w3⟩⟩]
            · rw [if_neg (show ¬ sg (st b) = (len : Int) - 1 by rw [show (len : Int) - 1 = ((len - 1 : Nat) : Int) by omega, sg_eq _ _ (by omega)]; omega), if_neg (by rintro ⟨_, c | c⟩; exact w1 c.1; exact w3 c.2.2)]
      · rw [if_neg (fun q => z ((sg_neg _).1 q)), if_neg (fun q => z q.1)]
    by_cases q : st a = 0 ∧ rcond tt len st b
    · have ih := st2 h tt len hl R s (p ++ [(a, b)]) (upd st a len) (by simpa using he) (by simpa only [rnd, if_pos q] using H)
      rw [len_snoc] at ih
      exact Ev.step (fun k => by rw [hst, if_pos q]) ih
    · have ih := st2 h tt len hl R s (p ++ [(a, b)]) st (by simpa using he) (by simpa only [rnd, if_neg q] using H)
      rw [len_snoc] at ih
      exact Ev.step (fun k => by rw [hst, if_neg q]) ih
theorem st1 (h : Val n E) (tt : Nat) : ∀ (m c : Nat), c + m = n → Ev (fun k => rf_steps.l1 k tt (sI n (rnds E tt c)) ((c : Int) + 1) n (emb E)) (sI n (rnds E tt n))
  | 0, c, hc => by
    obtain rfl : c = n := by omega
    exact Ev.const1 fun k => by simp only [rf_steps.l1]; rw [if_neg (by omega)]
  | m + 1, c, hc => by
    have hn := h.le
    refine Ev.step (f := fun k => rf_steps.l2 k tt (sI n (rnds E tt c)) ((c + 1 : Nat) : Int) (([] : List (Nat × Nat)).length : Int) n (emb E)) (fun k => ?_) ?_
    · simp only [rf_steps.l1]; rw [if_pos (by omega)]; rfl
    · refine st2 h tt (c + 1) (by omega) _ E [] (rnds E tt c) rfl ?_
      exact st1 h tt m (c + 1) (by omega)
theorem st0 (h : Val n E) (tt : Nat) : ∀ (m i : Nat), i + m = n → Ev (fun k => rf_steps.l0 k tt (List.replicate i (-1)) i n (emb E)) (sI n (rnds E tt n))
  | 0, i, hi => by
    obtain rfl : i = n := by omega
    have := st1 h tt i 0 (by omega)
    refine Ev.step (fun k => ?_) this
    simp only [rf_steps.l0]
    rw [if_neg (by omega)]
    have e : List.replicate i (-1 : Int) = sI i (rnds E tt 0) := by
      unfold sI
      rw [show (fun j => sg (rnds E tt 0 j)) = fun _ => (-1 : Int) from funext fun j => by simp [rnds, sg], List.map_const', List.length_range]
    rw [e]; rfl
  | m + 1, i, hi => by
    have hn := h.le
    refine Ev.step (fun k => ?_) (st0 h tt m (i + 1) (by omega))
    simp only [rf_steps.l0]
    rw [if_pos (by omega), if_pos (by rw [List.length_replicate]; omega), wr (by omega), List.replicate_succ']
    rfl
theorem steps_ev (h : Val n E) (tt : Nat) : Ev (fun k => rf_steps.f k n (emb E) tt) (sI n (rnds E tt n)) := st0 h tt n 0 (by omega)
theorem rc3 (h : Val n E) (m : Nat) (st : Nat → Nat) (left last : Nat) (hleft : left ≤ 1000) (o : List Nat) (ho : o.length ≤ 100000) (R : List Int)
    (H : ∀ k, pickR E n m st last (left + 1) = some k → Ev (fun q => rf_Cycle.l2 q m (sI n st) (toI (o ++ [last] ++ [k])) left n (emb E)) R)
    (H0 : pickR E n m st last (left + 1) = none → Ev (fun q => rf_Cycle.l2 q m (sI n st) (toI (o ++ [last])) left n (emb E)) R) :
    ∀ (d i : Nat), i + d = n → (∀ j, j < i → (decide (j ≠ m) && (decide (st j = left + 1) && decide ((last, j) ∈ E))) = false) →
    Ev (fun q => rf_Cycle.l3 q m (sI n st) (toI (o ++ [last])) ((left + 1 : Nat) : Int) i n (emb E)) R
  | 0, i, hi, hf => by
    refine Ev.step (fun q => ?_) (H0 (find_none fun j hj => hf j (by omega)))
    simp only [rf_Cycle.l3]
    rw [if_neg (by omega), wr (by omega), show ((left + 1 : Nat) : Int) - 1 = left by omega]
  | d + 1, i, hi, hf => by
    have hn := h.le
    have hin : i < n := by omega
    have nx : (decide (i ≠ m) && (decide (st i = left + 1) && decide ((last, i) ∈ E))) = false → Ev (fun q => rf_Cycle.l3 q m (sI n st) (toI (o ++ [last])) ((left + 1 : Nat) : Int) ((i : Int) + 1) n (emb E)) R := fun e => rc3 h m st left last hleft o ho R H H0 d (i + 1) (by omega) (fun j hj => by
      by_cases q : j = i
      · rw [q]; exact e
      · exact hf j (by omega))
    have e1 : wrap64 (((toI (o ++ [last])).length : Int) - 1) = (o.length : Int) := by rw [toI_len]; simp; rw [wr (by omega)]
    by_cases q1 : i = m
    · refine Ev.step (fun q => ?_) (nx (by simp [q1]))
      simp only [rf_Cycle.l3]
      rw [if_pos (by omega), if_pos (by omega), wr (by omega)]
    · by_cases q2 : st i = left + 1
      · have hst : ∀ q, rf_Cycle.l3 (q + 1) m (sI n st) (toI (o ++ [last])) ((left + 1 : Nat) : Int) i n (emb E) = (rf_Edge.f q n (emb E) (last : Int) (i : Int)).bind fun t438 => (if t438 = true then (rf_Cycle.l2 q m (sI n st) (toI (o ++ [last] ++ [i])) left n (emb E)) else (rf_Cycle.l3 q m (sI n st) (toI (o ++ [last])) ((left + 1 : Nat) : Int) ((i : Int) + 1) n (emb E))) := fun q => by
          simp only [rf_Cycle.l3]
          rw [if_pos (by omega), if_neg (by omega), if_pos (by omega), if_pos (by rw [sI_len]; omega), rd_sI _ hin, if_pos ((sg_eq _ _ (by omega)).2 q2), e1, if_pos (by omega), if_pos (by rw [toI_len]; simp; omega), rd_toI, wr (by omega), wr (by omega)]
          have hlt : (toI (o ++ [last])).length < 17592186044416 := by rw [toI_len]; simp; omega
          simp only [if_pos hlt]
          rw [show ((left + 1 : Nat) : Int) - 1 = left by omega, toI_app (o ++ [last])]
          rfl
        refine Ev.step hst (Ev.bind (f := fun q t438 => (if t438 = true then (rf_Cycle.l2 q m (sI n st) (toI (o ++ [last] ++ [i])) left n (emb E)) else (rf_Cycle.l3 q m (sI n st) (toI (o ++ [last])) ((left + 1 : Nat) : Int) ((i : Int) + 1) n (emb E)))) (Edge_ev h.len n last i) ?_)
        by_cases q3 : (last, i) ∈ E
        · simp only [q3, decide_true, if_true]
          exact H i (find_at hin (by simp [q1, q2, q3]) hf)
        · simp only [q3, decide_false, Bool.false_eq_true, if_false]
          exact nx (by simp [q3])
      · refine Ev.step (fun q => ?_) (nx (by simp [q2]))
        simp only [rf_Cycle.l3]
        rw [if_pos (by omega), if_neg (by omega), if_pos (by omega), if_pos (by rw [sI_len]; omega), rd_sI _ hin, if_neg (fun w => q2 ((sg_eq _ _ (by omega)).1 w)), wr (by omega)]
theorem rc2 (h : Val n E) (m : Nat) (st : Nat → Nat) : ∀ (left last : Nat) (o : List Nat), left ≤ 1000 → o.length + left ≤ 10000 →
    Ev (fun q => rf_Cycle.l2 q m (sI n st) (toI (o ++ [last])) left n (emb E)) (toI (pth (pickR E n m st) left last (o ++ [last])))
  | 0, last, o, hL, ho => Ev.const1 fun q => by simp only [rf_Cycle.l2]; rw [if_neg (by omega)]; rfl
  | left + 1, last, o, hL, ho => by
    have h3 := rc3 h m st left last (by omega) o (by omega) (toI (pth (pickR E n m st) (left + 1) last (o ++ [last]))) (fun k hk => by
      simp only [pth, hk]
      exact rc2 h m st left k (o ++ [last]) (by omega) (by simp; omega)) (fun hk => by
      simp only [pth, hk]
      exact rc2 h m st left last o (by omega) (by omega)) n 0 (by omega) (fun j hj => absurd hj (by omega))
    refine Ev.step (fun q => ?_) h3
    simp only [rf_Cycle.l2]
    rw [if_pos (by omega)]
    rfl
theorem rcA (h : Val n E) {g m : Nat} (hL : Least E g m) : ∀ (d i : Nat), i + d = n → i ≤ m → Ev (fun k => rf_Cycle.l1 k ((g + 1 : Nat) : Int) i n (emb E)) (toI (pth (pickR E n m (rnds E m n)) g m [m]))
  | 0, i, hi, him => by have := least_lt h.lt hL; omega
  | d + 1, i, hi, him => by
    have hn := h.le
    have hin : i < n := by omega
    have hg : g + 1 ≤ n := by
      have := (rnds_least h.lt hL).1
      have h2 := (rnds_spec E m n).1 m
      omega
    have hst : ∀ k, rf_Cycle.j2 (k + 1) ((g + 1 : Nat) : Int) i true n (emb E) = (rf_steps.f k n (emb E) i).bind fun t429 => (if 0 ≤ (i : Int) then (if (i : Int) < (t429.length : Int) then (if (rd t429 i) = ((g + 1 : Nat) : Int) then (rf_Cycle.l2 k i t429 (([(i : Int)] : List Int)) (wrap64 (((g + 1 : Nat) : Int) - 1)) n (emb E)) else (rf_Cycle.l1 k ((g + 1 : Nat) : Int) (wrap64 ((i : Int) + 1)) n (emb E))) else (none)) else (none)) := fun k => rfl
    refine Ev.step (f := fun k => rf_Cycle.j2 k ((g + 1 : Nat) : Int) i true n (emb E)) (fun k => ?_) (Ev.step hst (Ev.bind (f := fun k t429 => (if 0 ≤ (i : Int) then (if (i : Int) < (t429.length : Int) then (if (rd t429 i) = ((g + 1 : Nat) : Int) then (rf_Cycle.l2 k i t429 (([(i : Int)] : List Int)) (wrap64 (((g + 1 : Nat) : Int) - 1)) n (emb E)) else (rf_Cycle.l1 k ((g + 1 : Nat) : Int) (wrap64 ((i : Int) + 1)) n (emb E))) else (none)) else (none))) (steps_ev h i) ?_))
    · simp only [rf_Cycle.l1]
      rw [if_pos (by omega), decide_eq_true (by omega)]
    · have e0 : 0 ≤ (i : Int) := by omega
      have e1 : (i : Int) < ((sI n (rnds E i n)).length : Int) := by rw [sI_len]; omega
      simp only [if_pos e0, if_pos e1, rd_sI _ hin]
      have hl := rnds_least h.lt hL
      by_cases q : i = m
      · subst q
        rw [hl.1]
        simp only [(sg_eq (g + 1) (g + 1) (by omega)).2 rfl, if_true]
        rw [wr (by omega), show ((g + 1 : Nat) : Int) - 1 = g by omega]
        exact rc2 h i (rnds E i n) g i [] (by omega) (by simp; omega)
      · have h2 := hl.2 i hin
        have hne : ¬ sg (rnds E i n i) = ((g + 1 : Nat) : Int) := fun w => by
          have := (sg_eq _ _ (by omega)).1 w
          rcases h2 with c | c
          · omega
          · have := c.2 (by omega); omega
        simp only [if_neg hne]
        rw [wr (by omega)]
        exact rcA h hL d (i + 1) (by omega) (by omega)
theorem rcB (h : Val n E) {g m : Nat} (hL : Least E g m) : ∀ (d i b : Nat), i + d = n → (b = 0 ∨ g + 1 ≤ b) → (m < i → b = g + 1) → Ev (fun k => rf_Cycle.l0 k b i n (emb E)) (toI (pth (pickR E n m (rnds E m n)) g m [m]))
  | 0, i, b, hi, hb, hm => by
    have := least_lt h.lt hL
    have hbg := hm (by omega)
    refine Ev.step (fun k => ?_) (rcA h hL n 0 (by omega) (by omega))
    simp only [rf_Cycle.l0]
    rw [if_neg (by omega), hbg]
    rfl
  | d + 1, i, b, hi, hb, hm => by
    have hn := h.le
    have hin : i < n := by omega
    have hst : ∀ k, rf_Cycle.l0 (k + 1) b i n (emb E) = (rf_steps.f k n (emb E) i).bind fun t422 => (if 0 ≤ (i : Int) then (if (i : Int) < (t422.length : Int) then (if (rd t422 i) > 0 then (if (b : Int) = 0 then (rf_Cycle.l0 k (rd t422 i) (wrap64 ((i : Int) + 1)) n (emb E)) else (if (rd t422 i) < b then (rf_Cycle.l0 k (rd t422 i) (wrap64 ((i : Int) + 1)) n (emb E)) else (rf_Cycle.l0 k b (wrap64 ((i : Int) + 1)) n (emb E)))) else (rf_Cycle.l0 k b (wrap64 ((i : Int) + 1)) n (emb E))) else (none)) else (none)) := fun k => by
      simp only [rf_Cycle.l0]
      rw [if_pos (by omega)]
    refine Ev.step hst (Ev.bind (f := fun k t422 => (if 0 ≤ (i : Int) then (if (i : Int) < (t422.length : Int) then (if (rd t422 i) > 0 then (if (b : Int) = 0 then (rf_Cycle.l0 k (rd t422 i) (wrap64 ((i : Int) + 1)) n (emb E)) else (if (rd t422 i) < b then (rf_Cycle.l0 k (rd t422 i) (wrap64 ((i : Int) + 1)) n (emb E)) else (rf_Cycle.l0 k b (wrap64 ((i : Int) + 1)) n (emb E)))) else (rf_Cycle.l0 k b (wrap64 ((i : Int) + 1)) n (emb E))) else (none)) else (none))) (steps_ev h i) ?_)
    have e0 : 0 ≤ (i : Int) := by omega
    have e1 : (i : Int) < ((sI n (rnds E i n)).length : Int) := by rw [sI_len]; omega
    simp only [if_pos e0, if_pos e1, rd_sI _ hin]
    have hl := rnds_least h.lt hL
    have h2 := hl.2 i hin
    rw [wr (by omega)]
    have nx : ∀ b' : Nat, (b' = 0 ∨ g + 1 ≤ b') → (m < i + 1 → b' = g + 1) → Ev (fun k => rf_Cycle.l0 k (b' : Int) ((i : Int) + 1) n (emb E)) (toI (pth (pickR E n m (rnds E m n)) g m [m])) := fun b' h1 h3 => rcB h hL d (i + 1) b' (by omega) h1 h3
    generalize hv : rnds E i n i = v at h2 ⊢
    have hvm : i = m → v = g + 1 := fun e => by rw [← hv, e]; exact hl.1
    by_cases q : 0 < v
    · simp only [if_pos ((sg_pos v).2 q)]
      have hsg : sg v = (v : Int) := by unfold sg; rw [if_neg (by omega)]
      rw [hsg]
      by_cases z : b = 0
      · simp only [if_pos (show (b : Int) = 0 by omega)]
        refine nx v (by omega) (fun hmi => ?_)
        by_cases w : i = m
        · exact hvm w
        · have := hm (by omega); omega
      · simp only [if_neg (show ¬ (b : Int) = 0 by omega)]
        by_cases w : v < b
        · simp only [if_pos (show (v : Int) < (b : Int) by omega)]
          refine nx v (by omega) (fun hmi => ?_)
          by_cases y : i = m
          · exact hvm y
          · have := hm (by omega); omega
        · simp only [if_neg (show ¬ (v : Int) < (b : Int) by omega)]
          refine nx b hb (fun hmi => ?_)
          by_cases y : i = m
          · have := hvm y; omega
          · exact hm (by omega)
    · simp only [if_neg (fun w => q ((sg_pos v).1 w))]
      refine nx b hb (fun hmi => ?_)
      by_cases y : i = m
      · have := hvm y; omega
      · exact hm (by omega)
theorem rCycle_yes (h : Val n E) {g m : Nat} (hL : Least E g m) : Ev (fun k => rf_Cycle.f k n (emb E)) (toI (pth (pickR E n m (rnds E m n)) g m [m])) := rcB h hL n 0 0 (by omega) (.inl rfl) (by omega)
theorem rcN (h : Val n E) (hc : ¬ Cyc E) : ∀ (d i : Nat), i + d = n → Ev (fun k => rf_Cycle.l0 k 0 i n (emb E)) []
  | 0, i, hi => by
    refine Ev.step (f := fun k => rf_Cycle.l1 k 0 0 n (emb E)) (fun k => ?_) (Ev.step (f := fun k => rf_Cycle.j2 k 0 0 false n (emb E)) (fun k => ?_) (Ev.const1 fun k => rfl))
    · simp only [rf_Cycle.l0]; rw [if_neg (by omega)]
    · simp only [rf_Cycle.l1]
      split
      · rfl
      · rfl
  | d + 1, i, hi => by
    have hn := h.le
    have hin : i < n := by omega
    have hst : ∀ k, rf_Cycle.l0 (k + 1) 0 i n (emb E) = (rf_steps.f k n (emb E) i).bind fun t422 => (if 0 ≤ (i : Int) then (if (i : Int) < (t422.length : Int) then (if (rd t422 i) > 0 then (rf_Cycle.l0 k (rd t422 i) (wrap64 ((i : Int) + 1)) n (emb E)) else (rf_Cycle.l0 k 0 (wrap64 ((i : Int) + 1)) n (emb E))) else (none)) else (none)) := fun k => by
      simp only [rf_Cycle.l0]
      rw [if_pos (by omega)]
      simp only [if_true]
    refine Ev.step hst (Ev.bind (f := fun k t422 => (if 0 ≤ (i : Int) then (if (i : Int) < (t422.length : Int) then (if (rd t422 i) > 0 then (rf_Cycle.l0 k (rd t422 i) (wrap64 ((i : Int) + 1)) n (emb E)) else (rf_Cycle.l0 k 0 (wrap64 ((i : Int) + 1)) n (emb E))) else (none)) else (none))) (steps_ev h i) ?_)
    have e0 : 0 ≤ (i : Int) := by omega
    have e1 : (i : Int) < ((sI n (rnds E i n)).length : Int) := by rw [sI_len]; omega
    simp only [if_pos e0, if_pos e1, rd_sI _ hin, rnds_none h.lt hc i]
    rw [wr (by omega)]
    exact rcN h hc d (i + 1) (by omega)
theorem rCycle_no (h : Val n E) (hc : ¬ Cyc E) : Ev (fun k => rf_Cycle.f k n (emb E)) [] := rcN h hc n 0 (by omega)
theorem bst_yes (h : Val n E) {g m : Nat} (hL : Least E g m) : bst n E = (toI (pth (pickR E n m (rnds E m n)) g m [m]), 0) ∧ pth (pickR E n m (rnds E m n)) g m [m] = cyc E n m ∧ cyc E n m ≠ [] := by
  have h1 := cyc_ref h.lt h.sorted hL
  have h2 := sel_least h.lt hL
  obtain ⟨t, h3, _⟩ := cyc_good h.lt h.sorted hL
  have h4 : cyc E n m ≠ [] := by rw [h3]; exact List.cons_ne_nil _ _
  refine ⟨?_, h1.symm, h4⟩
  unfold bst
  rw [h2, if_neg h4, h1]
theorem bst_no (h : Val n E) (hc : ¬ Cyc E) : bst n E = ([], 9) := by
  unfold bst
  rw [sel_none h.lt hc, if_pos rfl]
end
theorem awake60 : lw_awake.f 60 = some true := by decide +kernel
theorem awake_ev : Ev (fun k => lw_awake.f k) true := Ev.of (fun k => lw_awake.mono k) awake60
theorem few_cases (n : Int) (l : List S47) : lw_few.f n l = some false ∨ (lw_few.f n l = some true ∧ l.length ≤ 60 ∧ (n ≤ 12 ∨ n > 256)) := by
  unfold lw_few.f
  by_cases h : n ≤ 12
  · rw [if_pos h]
    by_cases q : (l.length : Int) ≤ 60
    · exact .inr ⟨by simp [q], by omega, .inl h⟩
    · exact .inl (by simp [q])
  · rw [if_neg h]
    by_cases h2 : n > 256
    · rw [if_pos h2]
      by_cases q : (l.length : Int) ≤ 60
      · exact .inr ⟨by simp [q], by omega, .inr h2⟩
      · exact .inl (by simp [q])
    · exact .inl (by rw [if_neg h2])
theorem awk {α : Type} {g : Nat → Bool → Option α} {r : α} (h : Ev (fun k => g k true) r) : Ev (fun k => (lw_awake.f k).bind fun t => g k t) r := Ev.bind (f := fun k t => g k t) awake_ev h
end Go.Proofs.Ytecbmcheojolnaa.XA
