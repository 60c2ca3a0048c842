import Derived.Test.YtecbmcheojolnaaXAx0
import Derived.Test.YtecbmcheojolnaaXAx2
import Derived.Test.YtecbmcheojolnaaXAx3
import Derived.Test.YtecbmcheojolnaaXAx4
import Derived.Test.YtecbmcheojolnaaXAx5
import Derived.Test.YtecbmcheojolnaaXAx6
import Derived.Test.YtecbmcheojolnaaXAx24
import Derived.Test.YtecbmcheojolnaaXAx25
import Derived.Test.YtecbmcheojolnaaXAx26
import Derived.Test.YtecbmcheojolnaaXAx27
import Derived.Test.YtecbmcheojolnaaHa
import Derived.Test.YtecbmcheojolnaaXAx14
import Derived.Test.YtecbmcheojolnaaXAx15
import Derived.Test.YtecbmcheojolnaaXAx22
import Derived.Test.YtecbmcheojolnaaXAx13
import Derived.Test.YtecbmcheojolnaaXAx28
import Derived.Test.YtecbmcheojolnaaXAx29
import Derived.Test.YtecbmcheojolnaaXAx30
import Derived.Test.YtecbmcheojolnaaXAx31
import Derived.Test.YtecbmcheojolnaaXAx32
import Derived.Test.YtecbmcheojolnaaXAx10
import Derived.Test.YtecbmcheojolnaaXAx11
import Derived.Test.YtecbmcheojolnaaXAx12
import Derived.Test.YtecbmcheojolnaaXAx37
import Derived.Test.YtecbmcheojolnaaXAx20
import Derived.Test.YtecbmcheojolnaaXAx34
import Derived.Test.YtecbmcheojolnaaXAx40
import Derived.Test.YtecbmcheojolnaaXAx8
import Derived.Test.YtecbmcheojolnaaHc
import Derived.Test.YtecbmcheojolnaaXAx35
import Derived.Test.YtecbmcheojolnaaXAx36
import Derived.Test.YtecbmcheojolnaaXAx16
import Derived.Test.YtecbmcheojolnaaXAx17
import Derived.Test.YtecbmcheojolnaaXAx18
import Derived.Test.YtecbmcheojolnaaXAx19
import Derived.Test.YtecbmcheojolnaaXAx21
import Derived.Test.YtecbmcheojolnaaXAx39
import Derived.Test.YtecbmcheojolnaaXAx23
set_option linter.unusedVariables false
set_option linter.unusedSimpArgs false
namespace Go.Proofs.Ytecbmcheojolnaa.Gr
theorem cover : ∀ (n : Nat) (l : List Nat), l.Nodup → (∀ x ∈ l, x < n) → n ≤ l.length → ∀ a, a < n → a ∈ l
  | 0, l, _, _, _, a, ha => absurd ha (by omega)
  | n + 1, l, hd, hl, hn, a, ha => by
    by_cases hm : n ∈ l
    · by_cases e : a = n
      · rw [e]; exact hm
      · have h := cover n (l.erase n) (hd.erase n) (fun x hx => by
          have h1 := hl x (List.mem_of_mem_erase hx)
          have h2 : x ≠ n := fun q => by rw [q] at hx; exact (hd.not_mem_erase hx)
          omega) (by rw [List.length_erase_of_mem hm]; omega) a (by omega)
        exact List.mem_of_mem_erase h
    · have h := cover n (l.tail) (hd.sublist (List.tail_sublist l)) (fun x hx => by
        have h1 := hl x (List.mem_of_mem_tail hx)
        have h2 : x ≠ n := fun q => by rw [q] at hx; exact hm (List.mem_of_mem_tail hx)
        omega) (by rw [List.length_tail]; omega)
      exfalso
      match l, hn, hd, hl, hm, h with
      | [], hn, _, _, _, _ => simp at hn
      | b :: t, hn, hd, hl, hm, h =>
        have hb := hl b (by simp)
        have hbn : b ≠ n := fun q => hm (by simp [q])
        exact (List.nodup_cons.1 hd).1 (h b (by omega))
theorem few (n : Nat) (l : List Nat) (hd : l.Nodup) (hl : ∀ x ∈ l, x < n) : l.length ≤ n := by
  refine Classical.byContradiction fun h => ?_
  match l, hd, hl, h with
  | [], _, _, h => simp at h
  | b :: t, hd, hl, h =>
    have := cover n t (List.nodup_cons.1 hd).2 (fun x hx => hl x (by simp [hx])) (by simp only [List.length_cons] at h; omega) b (hl b (by simp))
    exact (List.nodup_cons.1 hd).1 this
def ready (E : List (Nat × Nat)) (out : List Nat) (i : Nat) : Bool := E.all fun p => decide (p.2 ≠ i) || decide (p.1 ∈ out)
theorem ready_iff {E : List (Nat × Nat)} {out : List Nat} {i : Nat} : ready E out i = true ↔ ∀ a, (a, i) ∈ E → a ∈ out := by
  simp only [ready, List.all_eq_true, Bool.or_eq_true, decide_eq_true_eq]
  constructor
  · intro h a ha
    rcases h _ ha with q | q
    · exact absurd rfl q
    · exact q
  · rintro h ⟨a, b⟩ hp
    by_cases e : b = i
    · right; rw [e] at hp; exact h a hp
    · left; exact e
def free (E : List (Nat × Nat)) (out : List Nat) (i : Nat) : Bool := !decide (i ∈ out) && ready E out i
def next (E : List (Nat × Nat)) (n : Nat) (out : List Nat) : Option Nat := (List.range n).find? (free E out)
def ord (E : List (Nat × Nat)) (n : Nat) : Nat → List Nat → List Nat
  | 0, out => out
  | k + 1, out => match next E n out with
    | none => out
    | some i => ord E n k (out ++ [i])
theorem next_some {E : List (Nat × Nat)} {n : Nat} {out : List Nat} {i : Nat} (h : next E n out = some i) : i < n ∧ i ∉ out ∧ ∀ a, (a, i) ∈ E → a ∈ out := by
  have h1 := List.find?_some h
  have h2 := List.mem_of_find?_eq_some h
  simp only [free, Bool.and_eq_true, Bool.not_eq_true', decide_eq_false_iff_not] at h1
  exact ⟨List.mem_range.1 h2, h1.1, ready_iff.1 h1.2⟩
theorem next_none {E : List (Nat × Nat)} {n : Nat} {out : List Nat} (h : next E n out = none) {i : Nat} (hi : i < n) (hm : i ∉ out) : ∃ a, (a, i) ∈ E ∧ a ∉ out := by
  have h1 := List.find?_eq_none.1 h i (List.mem_range.2 hi)
  refine Classical.byContradiction fun q => h1 ?_
  simp only [free, Bool.and_eq_true, Bool.not_eq_true', decide_eq_false_iff_not]
  exact ⟨hm, ready_iff.2 fun a ha => Classical.byContradiction fun c => q ⟨a, ha, c⟩⟩
def Good (E : List (Nat × Nat)) (n : Nat) (l : List Nat) : Prop := l.Nodup ∧ (∀ x ∈ l, x < n) ∧ ∀ p b s, l = p ++ b :: s → ∀ a, (a, b) ∈ E → a ∈ p
theorem good_nil (E : List (Nat × Nat)) (n : Nat) : Good E n [] := ⟨List.nodup_nil, by simp, fun p b s h => by simp at h⟩
theorem good_snoc {E : List (Nat × Nat)} {n : Nat} {l : List Nat} (g : Good E n l) {i : Nat} (hi : i < n) (hm : i ∉ l) (hr : ∀ a, (a, i) ∈ E → a ∈ l) : Good E n (l ++ [i]) := by
  obtain ⟨g1, g2, g3⟩ := g
  refine ⟨?_, ?_, ?_⟩
  · rw [List.nodup_append]
    refine ⟨g1, by simp, fun a ha b hb => ?_⟩
    simp only [List.mem_singleton] at hb
    rw [hb]; exact fun q => hm (q ▸ ha)
  · intro x hx
    rcases List.mem_append.1 hx with h | h
    · exact g2 x h
    · simp only [List.mem_singleton] at h; omega
  · intro p b s h a ha
    rcases List.append_eq_append_iff.1 h with ⟨t, h1, h2⟩ | ⟨t, h1, h2⟩
    · cases t with
      | nil =>
        simp only [List.nil_append, List.cons.injEq, List.append_nil] at h1 h2
        rw [h1, ]; rw [← h2.1] at ha; exact hr a ha
      | cons c t =>
        simp only [List.cons_append, List.cons.injEq] at h2
        exact absurd h2.2 (by simp)
    · cases t with
      | nil =>
        simp only [List.nil_append, List.cons.injEq, List.append_nil] at h1 h2
        rw [← h1]; rw [h2.1] at ha; exact hr a ha
      | cons c t =>
        simp only [List.cons_append, List.cons.injEq] at h2
        obtain ⟨rfl, rfl⟩ := h2
        exact g3 p b t h1 a ha
theorem ord_good {E : List (Nat × Nat)} {n : Nat} : ∀ k {out : List Nat}, Good E n out → Good E n (ord E n k out)
  | 0, out, g => g
  | k + 1, out, g => by
    simp only [ord]
    cases h : next E n out with
    | none => exact g
    | some i =>
      obtain ⟨a, b, c⟩ := next_some h
      exact ord_good k (good_snoc g a b c)
theorem ord_stop {E : List (Nat × Nat)} {n : Nat} : ∀ k {out : List Nat}, (ord E n k out).length < out.length + k → next E n (ord E n k out) = none
  | 0, out, h => by simp [ord] at h
  | k + 1, out, h => by
    simp only [ord] at h ⊢
    cases q : next E n out with
    | none => simp only [q]
    | some i =>
      simp only [q] at h ⊢
      exact ord_stop k (by simp only [List.length_append, List.length_cons, List.length_nil]; omega)
def order (E : List (Nat × Nat)) (n : Nat) : List Nat := ord E n n []
theorem order_good (E : List (Nat × Nat)) (n : Nat) : Good E n (order E n) := ord_good n (good_nil E n)
theorem order_len (E : List (Nat × Nat)) (n : Nat) : (order E n).length ≤ n := few n _ (order_good E n).1 (order_good E n).2.1
def Wy (E : List (Nat × Nat)) (S : Nat → Prop) : Nat → Nat → Nat → Prop
  | 0, a, b => (a, b) ∈ E
  | k + 1, a, b => ∃ c, (a, c) ∈ E ∧ S c ∧ Wy E S k c b
theorem wy_app {E : List (Nat × Nat)} {S : Nat → Prop} {c : Nat} (hc : S c) : ∀ k m a b, Wy E S k a c → Wy E S m c b → Wy E S (k + m + 1) a b
  | 0, m, a, b, h1, h2 => by rw [Nat.zero_add]; exact ⟨c, h1, hc, h2⟩
  | k + 1, m, a, b, ⟨d, h1, h2, h3⟩, h4 => by
    rw [show k + 1 + m + 1 = (k + m + 1) + 1 by omega]
    exact ⟨d, h1, h2, wy_app hc k m d b h3 h4⟩
def Cyc (E : List (Nat × Nat)) : Prop := ∃ k a, Wy E (fun _ => True) k a a
theorem good_lt {E : List (Nat × Nat)} {n : Nat} {l : List Nat} (g : Good E n l) {a b : Nat} (h : (a, b) ∈ E) (hb : b ∈ l) : a ∈ l ∧ l.idxOf a < l.idxOf b := by
  obtain ⟨p, s, rfl⟩ := List.append_of_mem hb
  have ha := g.2.2 p b s rfl a h
  have hbp : b ∉ p := fun q => by
    have := (List.nodup_append.1 g.1).2.2 b q b (by simp)
    exact this rfl
  refine ⟨by simp [ha], ?_⟩
  rw [List.idxOf_append, if_pos ha, List.idxOf_append, if_neg hbp]
  have := List.idxOf_lt_length_of_mem ha
  omega
theorem way_lt {E : List (Nat × Nat)} {n : Nat} {l : List Nat} (g : Good E n l) : ∀ k a b, Wy E (fun _ => True) k a b → b ∈ l → a ∈ l ∧ l.idxOf a < l.idxOf b
  | 0, a, b, h, hb => good_lt g h hb
  | k + 1, a, b, ⟨c, h1, _, h3⟩, hb => by
    obtain ⟨i, j⟩ := way_lt g k c b h3 hb
    obtain ⟨i', j'⟩ := good_lt g h1 i
    exact ⟨i', by omega⟩
theorem no_cyc {E : List (Nat × Nat)} {n : Nat} {l : List Nat} (hE : ∀ p ∈ E, p.1 < n ∧ p.2 < n) (g : Good E n l) (hl : l.length = n) : ¬ Cyc E := fun ⟨k, a, h⟩ => by
  have ha : a < n := by
    cases k with
    | zero => exact (hE _ h).1
    | succ k => obtain ⟨c, h1, _⟩ := h; exact (hE _ h1).1
  have := (way_lt g k a a h (cover n l g.1 g.2.1 (by omega) a ha)).2
  omega
theorem chain {E : List (Nat × Nat)} {R : Nat → Prop} (hR : ∀ i, R i → ∃ a, (a, i) ∈ E ∧ R a) : ∀ (m : Nat) (i : Nat), R i → ∃ l : List Nat, l.length = m + 1 ∧ (∀ x ∈ l, R x) ∧ (∃ t, l = t ++ [i]) ∧ ∀ p b s, l = p ++ b :: s → ∀ c r, s = c :: r → (b, c) ∈ E
  | 0, i, hi => ⟨[i], rfl, by simpa using hi, ⟨[], rfl⟩, fun p b s h c r hs => by
    subst hs
    have := congrArg List.length h
    simp only [List.length_append, List.length_cons, List.length_nil] at this
    omega⟩
  | m + 1, i, hi => by
    obtain ⟨l, h1, h2, ⟨t, ht⟩, h4⟩ := chain hR m i hi
    match l, h1 with
    | b :: q, h1 =>
      obtain ⟨a, ha, hRa⟩ := hR b (h2 b (by simp))
      refine ⟨a :: b :: q, by simp only [List.length_cons] at h1 ⊢; omega, fun x hx => ?_, ⟨a :: t, by rw [ht]; rfl⟩, fun p y s h c r hs => ?_⟩
      · rcases List.mem_cons.1 hx with e | e
        · rw [e]; exact hRa
        · exact h2 x e
      · cases p with
        | nil =>
          simp only [List.nil_append, List.cons.injEq] at h
          obtain ⟨rfl, h⟩ := h
          rw [hs] at h
          simp only [List.cons.injEq] at h
          rw [← h.1]; exact ha
        | cons z p =>
          simp only [List.cons_append, List.cons.injEq] at h
          exact h4 p y s h.2 c r hs
theorem along {E : List (Nat × Nat)} : ∀ (s : List Nat) (p : List Nat) (b c : Nat) (r : List Nat) (l : List Nat), (∀ p b s, l = p ++ b :: s → ∀ c r, s = c :: r → (b, c) ∈ E) → l = p ++ b :: (s ++ c :: r) → Wy E (fun _ => True) s.length b c
  | [], p, b, c, r, l, h, e => h p b _ e c r rfl
  | d :: s, p, b, c, r, l, h, e => ⟨d, h p b _ e d _ rfl, trivial, along s (p ++ [b]) d c r l h (by rw [e]; simp)⟩
theorem not_nodup : ∀ {l : List Nat}, ¬ l.Nodup → ∃ p b s r, l = p ++ b :: (s ++ b :: r)
  | [], h => absurd List.nodup_nil h
  | a :: l, h => by
    by_cases ha : a ∈ l
    · obtain ⟨s, r, e⟩ := List.append_of_mem ha
      exact ⟨[], a, s, r, by rw [e]; rfl⟩
    · have : ¬ l.Nodup := fun q => h (List.nodup_cons.2 ⟨ha, q⟩)
      obtain ⟨p, b, s, r, e⟩ := not_nodup this
      exact ⟨a :: p, b, s, r, by rw [e]; rfl⟩
theorem has_cyc {E : List (Nat × Nat)} {n : Nat} (hE : ∀ p ∈ E, p.1 < n ∧ p.2 < n) (h : (order E n).length < n) : Cyc E := by
  have hn : next E n (order E n) = none := ord_stop n (by simpa [order] using h)
  have hR : ∀ i, (i < n ∧ i ∉ order E n) → ∃ a, (a, i) ∈ E ∧ (a < n ∧ a ∉ order E n) := fun i ⟨h1, h2⟩ => by
    obtain ⟨a, h3, h4⟩ := next_none hn h1 h2
    exact ⟨a, h3, (hE _ h3).1, h4⟩
  obtain ⟨i, hi, hm⟩ : ∃ i, i < n ∧ i ∉ order E n := by
    refine Classical.byContradiction fun q => ?_
    have all : ∀ i, i < n → i ∈ order E n := fun i hi => Classical.byContradiction fun c => q ⟨i, hi, c⟩
    have hs : (List.range n).length ≤ (order E n).length := by
      have : ∀ (l m : List Nat), l.Nodup → (∀ x ∈ l, x ∈ m) → l.length ≤ m.length := by
        intro l
        induction l with
        | nil => intro m _ _; simp
        | cons a l ih =>
          intro m hd hs
          have hm := hs a (by simp)
          have := ih (m.erase a) (List.nodup_cons.1 hd).2 (fun x hx => by
            have hx2 := hs x (by simp [hx])
            have hne : x ≠ a := fun e => (List.nodup_cons.1 hd).1 (e ▸ hx)
            exact (List.mem_erase_of_ne hne).2 hx2)
          have hp := List.length_pos_of_mem hm
          rw [List.length_erase_of_mem hm] at this
          simp only [List.length_cons]; omega
      exact this _ _ List.nodup_range (fun x hx => all x (List.mem_range.1 hx))
    rw [List.length_range] at hs; omega
  obtain ⟨l, l1, l2, _, l4⟩ := chain hR n i ⟨hi, hm⟩
  have : ¬ l.Nodup := fun q => by have := few n l q (fun x hx => (l2 x hx).1); omega
  obtain ⟨p, b, s, r, e⟩ := not_nodup this
  exact ⟨s.length, b, along s p b b r l l4 e⟩
theorem full_iff {E : List (Nat × Nat)} {n : Nat} (hE : ∀ p ∈ E, p.1 < n ∧ p.2 < n) : (order E n).length = n ↔ ¬ Cyc E := by
  constructor
  · exact no_cyc hE (order_good E n)
  · intro h
    have := order_len E n
    refine Classical.byContradiction fun q => h (has_cyc hE (by omega))
def Need (E : List (Nat × Nat)) (a b : Nat) : Prop := ∃ k, Wy E (fun _ => True) k a b
theorem need_edge {E : List (Nat × Nat)} {a b : Nat} (h : (a, b) ∈ E) : Need E a b := ⟨0, h⟩
theorem need_trans {E : List (Nat × Nat)} {a b c : Nat} (h : Need E a b) (k : Need E b c) : Need E a c := by
  obtain ⟨i, h⟩ := h
  obtain ⟨j, k⟩ := k
  exact ⟨_, wy_app (S := fun _ => True) (c := b) trivial i j a c h k⟩
theorem need_cons {E : List (Nat × Nat)} {a b : Nat} (h : Need E a b) : ∃ c, (a, c) ∈ E ∧ (c = b ∨ Need E c b) := by
  obtain ⟨k, h⟩ := h
  cases k with
  | zero => exact ⟨b, h, .inl rfl⟩
  | succ k => obtain ⟨c, h1, _, h2⟩ := h; exact ⟨c, h1, .inr ⟨k, h2⟩⟩
theorem need_last {E : List (Nat × Nat)} : ∀ k {a b : Nat}, Wy E (fun _ => True) k a b → ∃ c, (c, b) ∈ E ∧ (c = a ∨ Need E a c)
  | 0, a, b, h => ⟨a, h, .inl rfl⟩
  | k + 1, a, b, ⟨d, h1, _, h2⟩ => by
    obtain ⟨c, h3, h4⟩ := need_last k h2
    refine ⟨c, h3, .inr ?_⟩
    rcases h4 with rfl | h4
    · exact need_edge h1
    · exact need_trans (need_edge h1) h4
theorem need_snoc {E : List (Nat × Nat)} {a b : Nat} (h : Need E a b) : ∃ c, (c, b) ∈ E ∧ (c = a ∨ Need E a c) := by
  obtain ⟨k, h⟩ := h; exact need_last k h
theorem need_lt {E : List (Nat × Nat)} {n : Nat} {l : List Nat} (g : Good E n l) {a b : Nat} (h : Need E a b) (hb : b ∈ l) : a ∈ l ∧ l.idxOf a < l.idxOf b := by
  obtain ⟨k, h⟩ := h; exact way_lt g k a b h hb
def IsLv (E : List (Nat × Nat)) (lv : Nat → Nat) : Prop := ∀ b, (∀ a, (a, b) ∈ E → lv a + 1 ≤ lv b) ∧ (lv b = 0 ∨ ∃ a, (a, b) ∈ E ∧ lv b = lv a + 1)
theorem lv_need {E : List (Nat × Nat)} {lv : Nat → Nat} (h : IsLv E lv) {a b : Nat} (q : Need E a b) : lv a < lv b := by
  obtain ⟨k, q⟩ := q
  induction k generalizing a with
  | zero => have := (h b).1 a q; omega
  | succ k ih =>
    obtain ⟨c, h1, _, h2⟩ := q
    have := ih h2
    have := (h c).1 a h1
    omega
theorem lv_le {E : List (Nat × Nat)} {n : Nat} {l : List Nat} (g : Good E n l) {u : Nat → Nat} (hu : IsLv E u) : ∀ (d : Nat) (b : Nat), b ∈ l → l.idxOf b = d → u b ≤ d := by
  intro d
  induction d using Nat.strongRecOn with
  | ind d ih =>
    intro b hb hd
    rcases (hu b).2 with q | ⟨a, ha, q⟩
    · omega
    · obtain ⟨h1, h2⟩ := good_lt g ha hb
      have := ih _ (by omega) a h1 rfl
      omega
def Idle (E : List (Nat × Nat)) (a b : Nat) : Prop := ∃ i, (i, b) ∈ E ∧ Need E a i
def Red (E R : List (Nat × Nat)) : Prop := ∀ a b, (a, b) ∈ R ↔ (a, b) ∈ E ∧ ¬ Idle E a b
theorem need_sub {E R : List (Nat × Nat)} (h : ∀ a b, (a, b) ∈ R → (a, b) ∈ E) {a b : Nat} (q : Need R a b) : Need E a b := by
  obtain ⟨k, q⟩ := q
  refine ⟨k, ?_⟩
  induction k generalizing a with
  | zero => exact h a b q
  | succ k ih => obtain ⟨c, h1, _, h2⟩ := q; exact ⟨c, h a c h1, trivial, ih h2⟩
theorem good_sub {E R : List (Nat × Nat)} {n : Nat} {l : List Nat} (h : ∀ a b, (a, b) ∈ R → (a, b) ∈ E) (g : Good E n l) : Good R n l := ⟨g.1, g.2.1, fun p b s e a ha => g.2.2 p b s e a (h a b ha)⟩
theorem red_need {E R : List (Nat × Nat)} {n : Nat} {l : List Nat} (g : Good E n l) (r : Red E R) : ∀ (d : Nat) (a b : Nat), b ∈ l → l.idxOf b - l.idxOf a = d → Need E a b → Need R a b := by
  intro d
  induction d using Nat.strongRecOn with
  | ind d ih =>
    intro a b hb hd q
    have edge : ∀ a b, b ∈ l → l.idxOf b - l.idxOf a ≤ d → (∀ d', d' < l.idxOf b - l.idxOf a → ∀ a b, b ∈ l → l.idxOf b - l.idxOf a = d' → Need E a b → Need R a b) → (a, b) ∈ E → Need R a b := by
      intro a b hb _ ih2 h
      by_cases w : Idle E a b
      · obtain ⟨i, h1, h2⟩ := w
        obtain ⟨i1, i2⟩ := good_lt g h1 hb
        obtain ⟨j1, j2⟩ := need_lt g h2 i1
        exact need_trans (ih2 _ (by omega) a i i1 rfl h2) (ih2 _ (by omega) i b hb rfl (need_edge h1))
      · exact need_edge ((r a b).2 ⟨h, w⟩)
    obtain ⟨c, h1, h2⟩ := need_cons q
    rcases h2 with rfl | h2
    · exact edge a c hb (by omega) (fun d' hd' a b hb e q => ih d' (by omega) a b hb e q) h1
    · obtain ⟨c1, c2⟩ := need_lt g h2 hb
      obtain ⟨a1, a2⟩ := good_lt g h1 c1
      exact need_trans (ih _ (by omega) a c c1 rfl (need_edge h1)) (ih _ (by omega) c b hb rfl h2)
theorem red_lv {E R : List (Nat × Nat)} {lv : Nat → Nat} (r : Red E R) (h : IsLv E lv) : IsLv R lv := fun b => by
  refine ⟨fun a ha => (h b).1 a ((r a b).1 ha).1, ?_⟩
  rcases (h b).2 with q | ⟨a, ha, q⟩
  · exact .inl q
  · right
    refine ⟨a, (r a b).2 ⟨ha, fun ⟨i, h1, h2⟩ => ?_⟩, q⟩
    have := lv_need h h2
    have := (h b).1 i h1
    omega
theorem red_good {E R : List (Nat × Nat)} {n : Nat} {l m : List Nat} (hE : ∀ p ∈ E, p.1 < n ∧ p.2 < n) (g : Good E n l) (hl : l.length = n) (r : Red E R) (gm : Good R n m) (hm : m.length = n) : Good E n m := by
  refine ⟨gm.1, gm.2.1, fun p b s e a ha => ?_⟩
  have hb : b ∈ m := by rw [e]; simp
  have q := red_need g r _ a b (cover n l g.1 g.2.1 (by omega) b (gm.2.1 b hb)) rfl (need_edge ha)
  obtain ⟨h1, h2⟩ := need_lt gm q hb
  rw [e] at h1 h2
  have hbp : b ∉ p := fun q => by
    have := gm.1; rw [e] at this
    exact (List.nodup_append.1 this).2.2 b q b (by simp) rfl
  refine Classical.byContradiction fun c => ?_
  rw [List.idxOf_append, if_neg c, List.idxOf_append, if_neg hbp] at h2
  simp only [List.idxOf_cons_self] at h2
  omega
theorem red_ready {E R : List (Nat × Nat)} {n : Nat} {l out : List Nat} (hE : ∀ p ∈ E, p.1 < n ∧ p.2 < n) (g : Good E n l) (hl : l.length = n) (r : Red E R) (go : Good E n out) {i : Nat} (hi : i < n) : ready E out i = ready R out i := by
  rw [Bool.eq_iff_iff, ready_iff, ready_iff]
  constructor
  · intro h a ha; exact h a ((r a i).1 ha).1
  · intro h a ha
    have q := red_need g r _ a i (cover n l g.1 g.2.1 (by omega) i hi) rfl (need_edge ha)
    obtain ⟨c, h1, h2⟩ := need_snoc q
    rcases h2 with rfl | h2
    · exact h _ h1
    · exact (need_lt (good_sub (fun a b h => ((r a b).1 h).1) go) h2 (h c h1)).1
theorem red_next {E R : List (Nat × Nat)} {n : Nat} {l out : List Nat} (hE : ∀ p ∈ E, p.1 < n ∧ p.2 < n) (g : Good E n l) (hl : l.length = n) (r : Red E R) (go : Good E n out) : next E n out = next R n out := by
  unfold next
  have : ∀ m : List Nat, (∀ i ∈ m, i < n) → m.find? (free E out) = m.find? (free R out) := by
    intro m
    induction m with
    | nil => intro _; rfl
    | cons i m ih =>
      intro h
      have e : free E out i = free R out i := by unfold free; rw [red_ready hE g hl r go (h i (by simp))]
      simp only [List.find?_cons, e, ih (fun j hj => h j (by simp [hj]))]
  exact this _ (fun i hi => List.mem_range.1 hi)
theorem red_ord {E R : List (Nat × Nat)} {n : Nat} {l : List Nat} (hE : ∀ p ∈ E, p.1 < n ∧ p.2 < n) (g : Good E n l) (hl : l.length = n) (r : Red E R) : ∀ k {out : List Nat}, Good E n out → ord E n k out = ord R n k out
  | 0, out, go => rfl
  | k + 1, out, go => by
    simp only [ord, ← red_next hE g hl r go]
    cases h : next E n out with
    | none => rfl
    | some i =>
      obtain ⟨a, b, c⟩ := next_some h
      exact red_ord hE g hl r k (good_snoc go a b c)
theorem is_iff {E : List (Nat × Nat)} {n : Nat} {l : List Nat} (hE : ∀ p ∈ E, p.1 < n ∧ p.2 < n) (hd : l.Nodup) (hl : ∀ x ∈ l, x < n) (hn : l.length = n) : Good E n l ↔ ∀ a b, (a, b) ∈ E → l.idxOf a < l.idxOf b := by
  constructor
  · intro g a b h
    exact (good_lt g h (cover n l hd hl (by omega) b (hE _ h).2)).2
  · intro h
    refine ⟨hd, hl, fun p b s e a ha => ?_⟩
    have h2 := h a b ha
    have hbp : b ∉ p := fun q => by
      rw [e] at hd
      exact (List.nodup_append.1 hd).2.2 b q b (by simp) rfl
    refine Classical.byContradiction fun c => ?_
    rw [e, List.idxOf_append, if_neg c, List.idxOf_append, if_neg hbp] at h2
    simp only [List.idxOf_cons_self] at h2
    omega
def bh (E : List (Nat × Nat)) (i : Nat) : List Nat := (E.filter fun p => decide (p.1 = i)).map (·.2)
def bf (E : List (Nat × Nat)) (i : Nat) : List Nat := (E.filter fun p => decide (p.2 = i)).map (·.1)
theorem mem_bh {E : List (Nat × Nat)} {a b : Nat} : b ∈ bh E a ↔ (a, b) ∈ E := by
  simp only [bh, List.mem_map, List.mem_filter, decide_eq_true_eq]
  constructor
  · rintro ⟨⟨x, y⟩, ⟨h1, h2⟩, h3⟩; simp only at h2 h3; rw [← h2, ← h3]; exact h1
  · intro h; exact ⟨(a, b), ⟨h, rfl⟩, rfl⟩
theorem mem_bf {E : List (Nat × Nat)} {a b : Nat} : a ∈ bf E b ↔ (a, b) ∈ E := by
  simp only [bf, List.mem_map, List.mem_filter, decide_eq_true_eq]
  constructor
  · rintro ⟨⟨x, y⟩, ⟨h1, h2⟩, h3⟩; simp only at h2 h3; rw [← h2, ← h3]; exact h1
  · intro h; exact ⟨(a, b), ⟨h, rfl⟩, rfl⟩
def wt (E : List (Nat × Nat)) (out : List Nat) (i : Nat) : Nat := (E.filter fun p => decide (p.2 = i) && !decide (p.1 ∈ out)).length
theorem wt_nil (E : List (Nat × Nat)) (i : Nat) : wt E [] i = (bf E i).length := by
  simp only [wt, bf, List.length_map]
  congr 1
  refine List.filter_congr fun p _ => by simp
theorem wt_zero {E : List (Nat × Nat)} {out : List Nat} {i : Nat} : wt E out i = 0 ↔ ready E out i = true := by
  rw [ready_iff, wt, List.length_eq_zero_iff, List.filter_eq_nil_iff]
  constructor
  · intro h a ha
    have := h _ ha
    simpa using this
  · rintro h ⟨a, b⟩ hp
    simp only [Bool.and_eq_true, decide_eq_true_eq, Bool.not_eq_true', decide_eq_false_iff_not, not_and, Classical.not_not]
    intro e; rw [e] at hp; exact h a hp
theorem wt_snoc {out : List Nat} {i : Nat} (h : i ∉ out) (k : Nat) : ∀ E : List (Nat × Nat), wt E out k = wt E (out ++ [i]) k + (bh E i).count k
  | [] => rfl
  | (a, b) :: E => by
    have ih := wt_snoc h k E
    simp only [wt, bh, List.filter_cons, List.mem_append, List.mem_singleton] at ih ⊢
    by_cases q1 : b = k <;> by_cases q2 : a = i <;> by_cases q3 : a ∈ out <;> simp_all <;> omega
def grow : List Nat → List Nat → List Nat
  | [], r => r
  | i :: L, r => if i ∈ r then grow L r else grow L (r ++ [i])
theorem grow_spec : ∀ (L r : List Nat), r.Nodup → (grow L r).Nodup ∧ (∀ x, x ∈ grow L r ↔ x ∈ r ∨ x ∈ L) ∧ ∃ t, grow L r = r ++ t
  | [], r, h => ⟨h, fun x => by simp [grow], [], by simp [grow]⟩
  | i :: L, r, h => by
    by_cases q : i ∈ r
    · simp only [grow, if_pos q]
      obtain ⟨a, b, c⟩ := grow_spec L r h
      refine ⟨a, fun x => ?_, c⟩
      rw [b x, List.mem_cons]
      constructor
      · rintro (h | h)
        · exact .inl h
        · exact .inr (.inr h)
      · rintro (h | h | h)
        · exact .inl h
        · rw [h]; exact .inl q
        · exact .inr h
    · simp only [grow, if_neg q]
      obtain ⟨a, b, t, c⟩ := grow_spec L (r ++ [i]) (by
        rw [List.nodup_append]; refine ⟨h, by simp, fun a ha b hb => ?_⟩
        simp only [List.mem_singleton] at hb; rw [hb]; exact fun e => q (e ▸ ha))
      refine ⟨a, fun x => ?_, i :: t, by rw [c]; simp⟩
      rw [b x, List.mem_append, List.mem_singleton, List.mem_cons]
      constructor
      · rintro ((h | h) | h)
        · exact .inl h
        · exact .inr (.inl h)
        · exact .inr (.inr h)
      · rintro (h | h | h)
        · exact .inl (.inl h)
        · exact .inl (.inr h)
        · exact .inr h
def srch (E : List (Nat × Nat)) (t : Nat) : Nat → Nat → List Nat → List Nat
  | 0, _, r => r
  | k + 1, p, r => match (t :: r)[p]? with
    | none => r
    | some x => srch E t k (p + 1) (grow (bf E x) r)
theorem srch_spec {E : List (Nat × Nat)} {n t : Nat} (hE : ∀ p ∈ E, p.1 < n ∧ p.2 < n) : ∀ (k p : Nat) (r : List Nat), r.Nodup → (∀ a ∈ r, Need E a t) → p ≤ r.length + 1 → (∀ j, j < p → ∀ x, (t :: r)[j]? = some x → ∀ a, (a, x) ∈ E → a ∈ r) → n + 2 ≤ k + p → ∀ a, a ∈ srch E t k p r ↔ Need E a t := by
  have lim : ∀ r : List Nat, r.Nodup → (∀ a ∈ r, Need E a t) → r.length ≤ n := fun r h1 h2 => few n r h1 fun x hx => by
    obtain ⟨c, h3, _⟩ := need_cons (h2 x hx); exact (hE _ h3).1
  have fin : ∀ (p : Nat) (r : List Nat), (∀ a ∈ r, Need E a t) → r.length < p → (∀ j, j < p → ∀ x, (t :: r)[j]? = some x → ∀ a, (a, x) ∈ E → a ∈ r) → ∀ a, a ∈ r ↔ Need E a t := by
    intro p r h2 h3 h4 a
    refine ⟨h2 a, fun h => ?_⟩
    obtain ⟨k, h⟩ := h
    have main : ∀ k a, Wy E (fun _ => True) k a t → a ∈ r := by
      intro k
      induction k with
      | zero => intro a h; exact h4 0 (by omega) t rfl a h
      | succ k ih =>
        rintro a ⟨c, h5, _, h6⟩
        have := ih c h6
        obtain ⟨j, hj, e⟩ := List.mem_iff_getElem.1 this
        exact h4 (j + 1) (by omega) c (by rw [List.getElem?_cons_succ, List.getElem?_eq_getElem hj, e]) a h5
    exact main k a h
  intro k
  induction k with
  | zero =>
    intro p r h1 h2 h3 h4 hk a
    have := lim r h1 h2
    exact fin p r h2 (by omega) h4 a
  | succ k ih =>
    intro p r h1 h2 h3 h4 hk a
    simp only [srch]
    cases q : (t :: r)[p]? with
    | none =>
      simp only
      rw [List.getElem?_eq_none_iff, List.length_cons] at q
      exact fin p r h2 (by omega) h4 a
    | some x =>
      simp only
      obtain ⟨g1, g2, u, g3⟩ := grow_spec (bf E x) r h1
      have hx : x = t ∨ Need E x t := by
        cases p with
        | zero => simp only [List.getElem?_cons_zero, Option.some.injEq] at q; exact .inl q.symm
        | succ p => rw [List.getElem?_cons_succ] at q; exact .inr (h2 x (List.mem_of_getElem? q))
      have hp : p < (t :: r).length := by
        refine Classical.byContradiction fun c => ?_
        rw [List.getElem?_eq_none (by omega)] at q; exact absurd q (by simp)
      refine ih (p + 1) _ g1 (fun y hy => ?_) ?_ (fun j hj y hy b hb => ?_) (by omega) a
      · rcases (g2 y).1 hy with h | h
        · exact h2 y h
        · have := need_edge (mem_bf.1 h)
          rcases hx with rfl | hx
          · exact this
          · exact need_trans this hx
      · rw [g3]; simp only [List.length_append, List.length_cons] at hp ⊢; omega
      · have hy' : (t :: r)[j]? = some y := by
          rw [g3, ← List.cons_append, List.getElem?_append_left (by omega)] at hy; exact hy
        rw [g2]
        by_cases e : j = p
        · subst e
          rw [q] at hy'
          simp only [Option.some.injEq] at hy'
          subst hy'
          exact .inr (mem_bf.2 hb)
        · exact .inl (h4 j (by omega) y hy' b hb)
def upd (aw : Nat → Nat) (i v : Nat) : Nat → Nat := fun j => if j = i then v else aw j
def lvl1 (i : Nat) : List Nat → (Nat → Nat) → (Nat → Nat)
  | [], lv => lv
  | k :: L, lv => lvl1 i L (upd lv i (max (lv i) (lv k + 1)))
theorem lvl1_spec (i : Nat) : ∀ (L : List Nat) (lv : Nat → Nat), i ∉ L → (∀ x, x ≠ i → lvl1 i L lv x = lv x) ∧ lv i ≤ lvl1 i L lv i ∧ (∀ k ∈ L, lv k + 1 ≤ lvl1 i L lv i) ∧ (lvl1 i L lv i = lv i ∨ ∃ k ∈ L, lvl1 i L lv i = lv k + 1)
  | [], lv, _ => ⟨fun x _ => rfl, Nat.le_refl _, fun k hk => absurd hk (by simp), .inl rfl⟩
  | k :: L, lv, h => by
    simp only [List.mem_cons, not_or] at h
    simp only [lvl1]
    obtain ⟨h1, h2, h3, h4⟩ := lvl1_spec i L (upd lv i (max (lv i) (lv k + 1))) h.2
    have ei : upd lv i (max (lv i) (lv k + 1)) i = max (lv i) (lv k + 1) := by simp [upd]
    have en : ∀ x, x ≠ i → upd lv i (max (lv i) (lv k + 1)) x = lv x := fun x hx => by simp [upd, hx]
    rw [ei] at h2 h4
    refine ⟨fun x hx => by rw [h1 x hx, en x hx], by omega, fun y hy => ?_, ?_⟩
    · rcases List.mem_cons.1 hy with e | e
      · rw [e]; omega
      · have := h3 y e
        rw [en y (fun q => h.2 (q ▸ e))] at this; exact this
    · rcases h4 with e | ⟨y, hy, e⟩
      · rw [e]
        rcases Nat.le_total (lv i) (lv k + 1) with q | q
        · right; exact ⟨k, by simp, by omega⟩
        · left; omega
      · right
        rw [en y (fun q => h.2 (q ▸ hy))] at e
        exact ⟨y, by simp [hy], e⟩
def lvls (E : List (Nat × Nat)) : List Nat → (Nat → Nat) → (Nat → Nat)
  | [], lv => lv
  | i :: s, lv => lvls E s (lvl1 i (bf E i) lv)
def Lc (E : List (Nat × Nat)) (lv : Nat → Nat) (b : Nat) : Prop := (∀ a, (a, b) ∈ E → lv a + 1 ≤ lv b) ∧ (lv b = 0 ∨ ∃ a, (a, b) ∈ E ∧ lv b = lv a + 1)
theorem lvls_spec {E : List (Nat × Nat)} {n : Nat} : ∀ (s p : List Nat) (lv : Nat → Nat), Good E n (p ++ s) → (∀ b ∈ p, Lc E lv b) → (∀ x, x ∉ p → lv x = 0) → (∀ b ∈ p ++ s, Lc E (lvls E s lv) b) ∧ ∀ x, x ∉ p ++ s → lvls E s lv x = 0
  | [], p, lv, g, h1, h2 => by simpa [lvls] using ⟨h1, h2⟩
  | i :: s, p, lv, g, h1, h2 => by
    have e : p ++ i :: s = (p ++ [i]) ++ s := by simp
    have hip : i ∉ p := fun q => (List.nodup_append.1 g.1).2.2 i q i (by simp) rfl
    have pre : ∀ a, (a, i) ∈ E → a ∈ p := fun a ha => g.2.2 p i s rfl a ha
    have hiL : i ∉ bf E i := fun q => hip (pre i (mem_bf.1 q))
    obtain ⟨k1, k2, k3, k4⟩ := lvl1_spec i (bf E i) lv hiL
    have gp : ∀ b ∈ p, ∀ a, (a, b) ∈ E → a ∈ p := fun b hb a ha => by
      obtain ⟨u, v, rfl⟩ := List.append_of_mem hb
      have := g.2.2 u b (v ++ i :: s) (by simp) a ha
      simp [this]
    have := lvls_spec s (p ++ [i]) (lvl1 i (bf E i) lv) (by rw [← e]; exact g) (fun b hb => ?_) (fun x hx => ?_)
    · rw [e]; exact this
    · rcases List.mem_append.1 hb with q | q
      · have hb2 : b ≠ i := fun c => hip (c ▸ q)
        refine ⟨fun a ha => ?_, ?_⟩
        · have ha2 : a ≠ i := fun c => hip (c ▸ gp b q a ha)
          rw [k1 b hb2, k1 a ha2]; exact (h1 b q).1 a ha
        · rw [k1 b hb2]
          rcases (h1 b q).2 with c | ⟨a, ha, c⟩
          · exact .inl c
          · have ha2 : a ≠ i := fun c => hip (c ▸ gp b q a ha)
            exact .inr ⟨a, ha, by rw [k1 a ha2]; exact c⟩
      · simp only [List.mem_singleton] at q
        rw [q]
        refine ⟨fun a ha => ?_, ?_⟩
        · have ha2 : a ≠ i := fun c => hip (c ▸ pre a ha)
          rw [k1 a ha2]; exact k3 a (mem_bf.2 ha)
        · rcases k4 with c | ⟨a, ha, c⟩
          · left; rw [c]; exact h2 i hip
          · have ha' := mem_bf.1 ha
            have ha2 : a ≠ i := fun c => hip (c ▸ pre a ha')
            exact .inr ⟨a, ha', by rw [k1 a ha2]; exact c⟩
    · simp only [List.mem_append, List.mem_singleton, not_or] at hx
      rw [k1 x hx.2]; exact h2 x hx.1
theorem lvls_is {E : List (Nat × Nat)} {n : Nat} {l : List Nat} (hE : ∀ p ∈ E, p.1 < n ∧ p.2 < n) (g : Good E n l) (hl : l.length = n) : IsLv E (lvls E l fun _ => 0) := fun b => by
  obtain ⟨h1, h2⟩ := lvls_spec l [] (fun _ => 0) g (by simp) (fun x _ => rfl)
  by_cases hb : b < n
  · exact h1 b (cover n l g.1 g.2.1 (by omega) b hb)
  · refine ⟨fun a ha => absurd (hE _ ha).2 hb, .inl (h2 b fun q => hb (g.2.1 b q))⟩
def rl : List (Nat × Nat) → (Nat → Nat) → (Nat → Nat)
  | [], st => st
  | (a, b) :: L, st => rl L (upd st b (max (st b) (st a + 1)))
theorem rl_spec {lv : Nat → Nat} : ∀ (L : List (Nat × Nat)) (st : Nat → Nat), (∀ a b, (a, b) ∈ L → lv a + 1 ≤ lv b) → (∀ x, st x ≤ lv x) → (∀ x, rl L st x ≤ lv x) ∧ (∀ x, st x ≤ rl L st x) ∧ ∀ a b, (a, b) ∈ L → st a + 1 ≤ rl L st b
  | [], st, _, h => ⟨h, fun x => Nat.le_refl _, fun a b q => absurd q (by simp)⟩
  | (a, b) :: L, st, hL, h => by
    simp only [rl]
    have hb := hL a b (by simp)
    have ha := h a
    have hbb := h b
    have up : ∀ x, st x ≤ upd st b (max (st b) (st a + 1)) x := fun x => by
      unfold upd; split
      · rename_i e; rw [e]; omega
      · exact Nat.le_refl _
    obtain ⟨h1, h2, h3⟩ := rl_spec L (upd st b (max (st b) (st a + 1))) (fun a b q => hL a b (by simp [q])) (fun x => by
      unfold upd; split
      · rename_i e; rw [e]; omega
      · exact h x)
    refine ⟨h1, fun x => Nat.le_trans (up x) (h2 x), fun c d q => ?_⟩
    rcases List.mem_cons.1 q with e | e
    · simp only [Prod.mk.injEq] at e
      rw [e.1, e.2]
      have := h2 b
      have e2 : upd st b (max (st b) (st a + 1)) b = max (st b) (st a + 1) := by simp [upd]
      omega
    · have := h3 c d e
      have := up c
      omega
def rls (E : List (Nat × Nat)) : Nat → (Nat → Nat)
  | 0 => fun _ => 0
  | k + 1 => rl E (rls E k)
theorem rls_spec {E : List (Nat × Nat)} {lv : Nat → Nat} (h : IsLv E lv) : ∀ k, (∀ x, rls E k x ≤ lv x) ∧ ∀ x, lv x ≤ k → rls E k x = lv x
  | 0 => ⟨fun x => Nat.zero_le _, fun x hx => (Nat.le_zero.1 hx).symm⟩
  | k + 1 => by
    obtain ⟨h1, h2⟩ := rls_spec h k
    obtain ⟨g1, g2, g3⟩ := rl_spec (lv := lv) E (rls E k) (fun a b q => (h b).1 a q) h1
    refine ⟨g1, fun x hx => ?_⟩
    have a1 := g1 x
    have a2 := g2 x
    simp only [rls]
    by_cases q : lv x ≤ k
    · have := h2 x q; omega
    · rcases (h x).2 with e | ⟨a, ha, e⟩
      · omega
      · have := g3 a x ha
        have := h2 a (by omega)
        omega
theorem rls_is {E : List (Nat × Nat)} {n : Nat} {l : List Nat} {lv : Nat → Nat} (h : IsLv E lv) (g : Good E n l) (hl : l.length = n) (b : Nat) (hb : b < n) : rls E n b = lv b := by
  have hm := cover n l g.1 g.2.1 (by omega) b hb
  have := lv_le g h _ b hm rfl
  have := List.idxOf_lt_length_of_mem hm
  exact (rls_spec h n).2 b (by omega)
def Sorted (E : List (Nat × Nat)) : Prop := E.Pairwise fun p q => p.1 < q.1 ∨ (p.1 = q.1 ∧ p.2 < q.2)
end Go.Proofs.Ytecbmcheojolnaa.Gr
namespace Go.Proofs.Ytecbmcheojolnaa.XA
open Go.RowKit Go.Proofs.Ytecbmcheojolnaa.Opens Go.Proofs.Ytecbmcheojolnaa.Gr Go.Proofs.YtecbmcheojolnaaW.PrintWords Go.Proofs.YtecbmcheojolnaaW.PrintLast Go.Proofs.YtecbmcheojolnaaW.PrintMore
set_option linter.unusedVariables false
set_option linter.unusedSimpArgs false
theorem wr {x : Int} (h : -9223372036854775808 ≤ x ∧ x ≤ 9223372036854775807) : wrap64 x = x := by unfold wrap64; omega
theorem rdT_app (p s : List S47) (e : S47) : rd_T47 (p ++ e :: s) (p.length : Int) = e := by
  simp [rd_T47, List.getD_eq_getElem?_getD]
theorem rd_app (p s : List Int) (e : Int) : rd (p ++ e :: s) (p.length : Int) = e := by
  simp [rd, List.getD_eq_getElem?_getD]
theorem len_app {α : Type} (p s : List α) (e : α) : ((p.length : Nat) : Int) < ((p ++ e :: s).length : Int) := by simp; omega
theorem app_snoc {α : Type} (p s : List α) (e : α) : p ++ e :: s = (p ++ [e]) ++ s := by simp
theorem len_snoc {α : Type} (p : List α) (e : α) : ((p ++ [e]).length : Int) = (p.length : Int) + 1 := by simp
theorem Ev.eq {α : Type} {g : Nat → Option α} {r s : α} (h : Ev g r) (e : r = s) : Ev g s := e ▸ h
theorem Ev.const {α : Type} {g : Nat → Option α} {r : α} (h : ∀ k, g k = some r) : Ev g r := ⟨0, fun k _ => h k⟩
theorem Ev.const1 {α : Type} {g : Nat → Option α} {r : α} (h : ∀ k, g (k + 1) = some r) : Ev g r := ⟨1, fun k hk => by
  obtain ⟨m, rfl⟩ : ∃ m, k = m + 1 := ⟨k - 1, by omega⟩
  exact h m⟩

def bad (n : Int) (e : S47) : Bool := !(decide (0 ≤ e.f0) && decide (e.f0 < n) && (decide (0 ≤ e.f1) && decide (e.f1 < n)))
def dup : List S47 → Bool
  | a :: b :: s => (decide (a.f0 > b.f0) || (decide (a.f0 = b.f0) && decide (a.f1 ≥ b.f1))) || dup (b :: s)
  | _ => false
def chk (n : Int) (l : List S47) : Int := if n > 256 then 7 else if n < 0 then 6 else if l.any (bad n) = true then 6 else if dup l = true then 5 else 0
theorem check2 (a b n : Int) (l : List S47) : precedence_Check_2.f a b n l = some (bad n ⟨a, b⟩) := by
  unfold precedence_Check_2.f precedence_Check_1.f bad
  by_cases h1 : 0 ≤ a <;> by_cases h2 : a < n <;> by_cases h3 : 0 ≤ b <;> by_cases h4 : b < n <;> simp [h1, h2, h3, h4]
theorem idx2 (n : Int) (l2 : List S47) : ∀ (s p : List S47), (p ++ s).length ≤ 1000 → ∃ r, Ev (fun k => slices_IndexFunc_2_int_2_int_by_precedence_Check_2.l0 k (p ++ s) ((p ++ s).length : Int) (p.length : Int) n l2) r ∧ decide (r ≥ 0) = s.any (bad n)
  | [], p, hl => ⟨-1, Ev.const1 fun k => by simp only [slices_IndexFunc_2_int_2_int_by_precedence_Check_2.l0]; rw [if_neg (by simp)], by simp⟩
  | e :: s, p, hl => by
    by_cases hb : bad n e = true
    · refine ⟨p.length, Ev.const1 fun k => ?_, by simp [hb]⟩
      simp only [slices_IndexFunc_2_int_2_int_by_precedence_Check_2.l0]
      rw [if_pos (len_app p s e), if_pos (by omega), if_pos (len_app p s e), rdT_app, check2]
      simp only [Option.bind_some, hb, if_true]
    · obtain ⟨r, h, hr⟩ := idx2 n l2 s (p ++ [e]) (by simpa using hl)
      rw [← app_snoc] at h
      refine ⟨r, Ev.step (fun k => ?_) h, by rw [hr]; simp [hb]⟩
      simp only [slices_IndexFunc_2_int_2_int_by_precedence_Check_2.l0]
      rw [if_pos (len_app p s e), if_pos (by omega), if_pos (len_app p s e), rdT_app, check2]
      simp only [Option.bind_some, hb, if_false]
      have : p.length ≤ 1000 := by simp at hl; omega
      rw [wr (by omega), len_snoc]
      simp
theorem dupP (n : Int) : ∀ (s p : List S47) (a : S47), (p ++ a :: s).length ≤ 1000 → Ev (fun k => precedence_Check.l0 k ((p.length : Int) + 1) n (p ++ a :: s)) (if dup (a :: s) = true then 5 else 0)
  | [], p, a, hl => Ev.const1 fun k => by simp only [precedence_Check.l0]; rw [if_neg (by simp)]; simp [dup]
  | b :: s, p, a, hl => by
    have hp : p.length ≤ 1000 := by simp at hl; omega
    have h1 : rd_T47 (p ++ a :: b :: s) ((p.length : Int) + 1) = b := by
      have := rdT_app (p ++ [a]) s b
      rw [len_snoc, List.append_assoc] at this; exact this
    have hlt : ((p.length : Int) + 1) < ((p ++ a :: b :: s).length : Int) := by simp; omega
    have hst : ∀ k, precedence_Check.l0 (k + 1) ((p.length : Int) + 1) n (p ++ a :: b :: s) = if (a.f0 > b.f0) ∨ (a.f0 = b.f0 ∧ a.f1 ≥ b.f1) then some 5 else precedence_Check.l0 k ((p.length : Int) + 1 + 1) n (p ++ a :: b :: s) := fun k => by
      simp only [precedence_Check.l0]
      rw [if_pos hlt, wr (by omega), show (p.length : Int) + 1 - 1 = p.length by omega, if_pos (by omega), if_pos (by omega), if_pos (by omega), rdT_app, h1, wr (by omega)]
      by_cases q1 : a.f0 > b.f0
      · rw [if_pos q1, if_pos (.inl q1)]
      · by_cases q2 : a.f0 = b.f0
        · by_cases q3 : a.f1 ≥ b.f1
          · rw [if_neg q1, if_pos q2, if_pos q3, if_pos (.inr ⟨q2, q3⟩)]
          · rw [if_neg q1, if_pos q2, if_neg q3, if_neg (by rintro (h | h); exact q1 h; exact q3 h.2)]
        · rw [if_neg q1, if_neg q2, if_neg (by rintro (h | h); exact q1 h; exact q2 h.1)]
    by_cases q : (a.f0 > b.f0) ∨ (a.f0 = b.f0 ∧ a.f1 ≥ b.f1)
    · refine Ev.const1 fun k => ?_
      rw [hst, if_pos q]
      rw [if_pos (by simp only [dup, Bool.or_eq_true, Bool.and_eq_true, decide_eq_true_eq]; exact .inl q)]
    · have ih := dupP n s (p ++ [a]) b (by simpa using hl)
      rw [len_snoc] at ih
      rw [← app_snoc] at ih
      refine Ev.step (fun k => by rw [hst, if_neg q]) (Ev.eq ih ?_)
      have : dup (a :: b :: s) = dup (b :: s) := by
        have : (decide (a.f0 > b.f0) || (decide (a.f0 = b.f0) && decide (a.f1 ≥ b.f1))) = false := by
          rw [Bool.eq_false_iff]; simp only [Bool.or_eq_true, Bool.and_eq_true, decide_eq_true_eq, ne_eq]; exact q
        simp only [dup, this, Bool.false_or]
      rw [this]
theorem Check_ev (n : Int) (l : List S47) (hl : l.length ≤ 1000) : Ev (fun k => precedence_Check.f k n l) (chk n l) := by
  unfold precedence_Check.f chk
  by_cases h1 : n > 256
  · exact Ev.const fun k => by rw [if_pos h1, if_pos h1]
  · by_cases h2 : n < 0
    · refine Ev.const1 fun k => ?_
      rw [if_neg h1, if_pos h2, if_neg h1, if_pos h2]; rfl
    · simp only [if_neg h1, if_neg h2]
      obtain ⟨r, hr, hd⟩ := idx2 n l l [] hl
      unfold slices_ContainsFunc_2_int_2_int_by_precedence_Check_2.f slices_IndexFunc_2_int_2_int_by_precedence_Check_2.f
      refine Ev.bind (a := l.any (bad n)) (f := fun k t => precedence_Check.j0 k t n l) ?_ ?_
      · refine Ev.bind (a := r) (f := fun k t => some (decide (t ≥ 0))) hr (Ev.const fun k => ?_)
        rw [hd]
      · by_cases h3 : l.any (bad n) = true
        · rw [if_pos h3, h3]
          exact Ev.const1 fun k => rfl
        · rw [if_neg h3, Bool.eq_false_iff.2 h3]
          refine Ev.step (f := fun k => precedence_Check.l0 k 1 n l) (fun k => rfl) ?_
          cases l with
          | nil => exact Ev.const1 fun k => rfl
          | cons a s => simpa using dupP n s [] a hl
def em (p : Nat × Nat) : S47 := ⟨(p.1 : Int), (p.2 : Int)⟩
def emb (E : List (Nat × Nat)) : List S47 := E.map em
def toI (l : List Nat) : List Int := l.map fun x : Nat => (x : Int)
def vI (n : Nat) (g : Nat → Nat) : List Int := (List.range n).map fun i => (g i : Int)
def LI (n : Nat) (f : Nat → List Nat) : List (List Int) := (List.range n).map fun i => toI (f i)
def vB (n : Nat) (g : Nat → Bool) : List Bool := (List.range n).map g
structure Val (n : Nat) (E : List (Nat × Nat)) : Prop where
  le : n ≤ 256
  len : E.length ≤ 1000
  lt : ∀ p ∈ E, p.1 < n ∧ p.2 < n
  sorted : Sorted E
theorem dup_sorted : ∀ (E : List (Nat × Nat)), dup (emb E) = false → Sorted E
  | [], _ => List.Pairwise.nil
  | [p], _ => List.pairwise_singleton _ _
  | p :: q :: E, h => by
    simp only [emb, em, List.map_cons, dup, Bool.or_eq_false_iff, Bool.and_eq_false_iff, decide_eq_false_iff_not] at h
    obtain ⟨⟨h1, h2⟩, h3⟩ := h
    have ih := dup_sorted (q :: E) h3
    have hpq : p.1 < q.1 ∨ (p.1 = q.1 ∧ p.2 < q.2) := by omega
    refine List.pairwise_cons.2 ⟨fun x hx => ?_, ih⟩
    rcases List.mem_cons.1 hx with rfl | hx
    · exact hpq
    · have := (List.pairwise_cons.1 ih).1 x hx
      omega
theorem valid {n : Int} {l : List S47} (hl : l.length ≤ 1000) (h : chk n l = 0) : ∃ (m : Nat) (E : List (Nat × Nat)), n = m ∧ l = emb E ∧ Val m E := by
  unfold chk at h
  by_cases h1 : n > 256
  · rw [if_pos h1] at h; omega
  · rw [if_neg h1] at h
    by_cases h2 : n < 0
    · rw [if_pos h2] at h; omega
    · rw [if_neg h2] at h
      by_cases h3 : l.any (bad n) = true
      · rw [if_pos h3] at h; omega
      · rw [if_neg h3] at h
        by_cases h4 : dup l = true
        · rw [if_pos h4] at h; omega
        · have hb : ∀ e ∈ l, (0 ≤ e.f0 ∧ e.f0 < n) ∧ (0 ≤ e.f1 ∧ e.f1 < n) := fun e he => by
            have := List.any_eq_false.1 (Bool.eq_false_iff.2 h3) e he
            unfold bad at this
            simp only [Bool.not_eq_true, Bool.not_eq_false', Bool.and_eq_true, decide_eq_true_eq] at this
            omega
          have he : l = emb (l.map fun e => (e.f0.toNat, e.f1.toNat)) := by
            unfold emb
            rw [List.map_map]
            conv => lhs; rw [← List.map_id l]
            refine List.map_congr_left fun e he => ?_
            obtain ⟨⟨a, b⟩, c, d⟩ := hb e he
            show e = S47.mk _ _
            cases e; simp only [S47.mk.injEq]; simp only at a b c d ⊢; omega
          refine ⟨n.toNat, l.map fun e => (e.f0.toNat, e.f1.toNat), by omega, he, by omega, by simpa using hl, fun p hp => ?_, dup_sorted _ (by rw [← he]; exact Bool.eq_false_iff.2 h4)⟩
          obtain ⟨e, he, rfl⟩ := List.mem_map.1 hp
          obtain ⟨⟨a, b⟩, c, d⟩ := hb e he
          simp only; omega
theorem sorted_dup : ∀ (E : List (Nat × Nat)), Sorted E → dup (emb E) = false
  | [], _ => rfl
  | [p], _ => rfl
  | p :: q :: E, h => by
    have h1 := (List.pairwise_cons.1 h).1 q (by simp)
    have ih := sorted_dup (q :: E) (List.pairwise_cons.1 h).2
    simp only [emb, em, List.map_cons] at ih ⊢
    simp only [dup, Bool.or_eq_false_iff, Bool.and_eq_false_iff, decide_eq_false_iff_not]
    exact ⟨⟨by omega, by omega⟩, ih⟩
theorem val_chk {n : Nat} {E : List (Nat × Nat)} (h : Val n E) : chk n (emb E) = 0 := by
  unfold chk
  rw [if_neg (by have := h.le; omega), if_neg (by omega), if_neg, if_neg (by rw [sorted_dup E h.sorted]; decide)]
  rw [Bool.not_eq_true, List.any_eq_false]
  intro e he
  obtain ⟨p, hp, rfl⟩ := List.mem_map.1 he
  have := h.lt p hp
  unfold bad em
  simp; omega
theorem vI_len (n : Nat) (g : Nat → Nat) : (vI n g).length = n := by simp [vI]
theorem LI_len (n : Nat) (f : Nat → List Nat) : (LI n f).length = n := by simp [LI]
theorem vB_len (n : Nat) (g : Nat → Bool) : (vB n g).length = n := by simp [vB]
theorem toI_len (l : List Nat) : (toI l).length = l.length := by simp [toI]
theorem em_0 (e : Nat × Nat) : (em e).f0 = (e.1 : Int) := rfl
theorem em_1 (e : Nat × Nat) : (em e).f1 = (e.2 : Int) := rfl
theorem emb_len (E : List (Nat × Nat)) : (emb E).length = E.length := by simp [emb]
theorem emb_app (p s : List (Nat × Nat)) : emb (p ++ s) = emb p ++ emb s := by simp [emb]
theorem toI_app (p s : List Nat) : toI (p ++ s) = toI p ++ toI s := by simp [toI]
theorem rd_vI {n i : Nat} (g : Nat → Nat) (h : i < n) : rd (vI n g) (i : Int) = g i := by
  simp [rd, vI, List.getD_eq_getElem?_getD, h]
theorem rdL_LI {n i : Nat} (f : Nat → List Nat) (h : i < n) : rd_L2 (LI n f) (i : Int) = toI (f i) := by
  simp [rd_L2, LI, List.getD_eq_getElem?_getD, h]
theorem rdB_vB {n i : Nat} (g : Nat → Bool) (h : i < n) : rdOf false (vB n g) (i : Int) = g i := by
  simp [rdOf, vB, List.getD_eq_getElem?_getD, h]
theorem map_set {α : Type} {n i : Nat} (g : Nat → α) (v : α) (h : i < n) : ((List.range n).map g).set i v = (List.range n).map fun j => if j = i then v else g j := by
  apply List.ext_getElem?
  intro j
  rw [List.getElem?_set, List.getElem?_map, List.getElem?_map]
  by_cases hj : j < n
  · rw [List.getElem?_range hj]
    by_cases e : i = j
    · subst e; simp [h]
    · rw [if_neg e]; simp [Ne.symm e]
  · rw [List.getElem?_eq_none (by simpa using hj)]
    simp only [List.length_map, List.length_range, h, if_true, Option.map_none]
    rw [if_neg (by omega)]
theorem set_vI {n i : Nat} (g : Nat → Nat) (v : Nat) (h : i < n) : (vI n g).set ((i : Int)).toNat (v : Int) = vI n (upd g i v) := by
  rw [Int.toNat_natCast]
  unfold vI
  rw [map_set _ _ h]
  refine List.map_congr_left fun j _ => ?_
  unfold upd
  split <;> rfl
theorem set_LI {n i : Nat} (f : Nat → List Nat) (v : List Nat) (h : i < n) : (LI n f).set ((i : Int)).toNat (toI v) = LI n (fun j => if j = i then v else f j) := by
  rw [Int.toNat_natCast]
  unfold LI
  rw [map_set _ _ h]
  refine List.map_congr_left fun j _ => ?_
  show _ = toI (if j = i then v else f j)
  split <;> rfl
theorem set_vB {n i : Nat} (g : Nat → Bool) (v : Bool) (h : i < n) : (vB n g).set ((i : Int)).toNat v = vB n (fun j => if j = i then v else g j) := by
  rw [Int.toNat_natCast]
  exact map_set _ _ h
theorem rep_vI (n : Nat) : List.replicate n (0 : Int) = vI n (fun _ => 0) := by
  unfold vI
  rw [List.map_const' , List.length_range]; rfl
theorem rep_LI (n : Nat) : List.replicate n ([] : List Int) = LI n (fun _ => []) := by
  unfold LI
  rw [List.map_const', List.length_range]; rfl
theorem rep_vB (n : Nat) : List.replicate n false = vB n (fun _ => false) := by
  unfold vB
  rw [List.map_const', List.length_range]
theorem rdT_emb (p s : List (Nat × Nat)) (e : Nat × Nat) : rd_T47 (emb (p ++ e :: s)) (p.length : Int) = em e := by
  rw [emb_app, show emb (e :: s) = em e :: emb s from rfl, ← emb_len p]
  exact rdT_app _ _ _
theorem rd_toI (p s : List Nat) (e : Nat) : rd (toI (p ++ e :: s)) (p.length : Int) = e := by
  rw [toI_app, show toI (e :: s) = (e : Int) :: toI s from rfl, ← toI_len p]
  exact rd_app _ _ _
theorem emb_lt (p s : List (Nat × Nat)) (e : Nat × Nat) : ((p.length : Nat) : Int) < ((emb (p ++ e :: s)).length : Int) := by rw [emb_len]; exact len_app p s e
theorem toI_lt (p s : List Nat) (e : Nat) : ((p.length : Nat) : Int) < ((toI (p ++ e :: s)).length : Int) := by rw [toI_len]; exact len_app p s e

theorem bh_snoc (p : List (Nat × Nat)) (e : Nat × Nat) (i : Nat) : bh (p ++ [e]) i = if i = e.1 then bh p e.1 ++ [e.2] else bh p i := by
  unfold bh
  by_cases h : i = e.1
  · subst h; simp
  · rw [if_neg h]; simp [Ne.symm h]
theorem bf_snoc (p : List (Nat × Nat)) (e : Nat × Nat) (i : Nat) : bf (p ++ [e]) i = if i = e.2 then bf p e.2 ++ [e.1] else bf p i := by
  unfold bf
  by_cases h : i = e.2
  · subst h; simp
  · rw [if_neg h]; simp [Ne.symm h]
theorem bh_len (p : List (Nat × Nat)) (i : Nat) : (bh p i).length ≤ p.length := by
  unfold bh; rw [List.length_map]; exact List.length_filter_le _ _
theorem bf_len (p : List (Nat × Nat)) (i : Nat) : (bf p i).length ≤ p.length := by
  unfold bf; rw [List.length_map]; exact List.length_filter_le _ _
theorem lists_go {n : Nat} : ∀ (s p : List (Nat × Nat)), (p ++ s).length ≤ 1000 → (∀ e ∈ p ++ s, e.1 < n ∧ e.2 < n) →
    Ev (fun k => precedence_listsOf.l0 k (emb (p ++ s)) ((emb (p ++ s)).length : Int) (p.length : Int) (LI n (bh p)) (LI n (bf p))) (LI n (bh (p ++ s)), LI n (bf (p ++ s)))
  | [], p, hl, hE => Ev.const1 fun k => by simp only [precedence_listsOf.l0]; rw [if_neg (by rw [emb_len]; simp)]; simp
  | e :: s, p, hl, hE => by
    have hp : p.length ≤ 1000 := by simp at hl; omega
    obtain ⟨he1, he2⟩ := hE e (by simp)
    have ih := lists_go s (p ++ [e]) (by simpa using hl) (by simpa using hE)
    rw [len_snoc, ← app_snoc] at ih
    refine Ev.step (fun k => ?_) ih
    simp only [precedence_listsOf.l0]
    have h1 := bh_len p e.1
    have h2 := bf_len p e.2
    rw [if_pos (emb_lt p s e), if_pos (by omega), if_pos (emb_lt p s e), rdT_emb]
    rw [em_0, em_1, if_pos (by omega), if_pos (by rw [LI_len]; omega), rdL_LI _ he1, rdL_LI _ he2, if_pos (by rw [toI_len]; omega), if_pos (by omega), if_pos (by rw [LI_len]; omega), if_pos (by rw [toI_len]; omega), wr (by omega)]
    rw [show toI (bh p e.1) ++ [(e.2 : Int)] = toI (bh p e.1 ++ [e.2]) by rw [toI_app]; rfl, show toI (bf p e.2) ++ [(e.1 : Int)] = toI (bf p e.2 ++ [e.1]) by rw [toI_app]; rfl, set_LI _ _ he1, set_LI _ _ he2]
    congr 1
    · unfold LI; refine List.map_congr_left fun j _ => ?_; rw [bh_snoc]
    · unfold LI; refine List.map_congr_left fun j _ => ?_; rw [bf_snoc]
theorem lists_ev {n : Nat} {E : List (Nat × Nat)} (h : Val n E) : Ev (fun k => precedence_listsOf.f k n (emb E)) (LI n (bh E), LI n (bf E)) := by
  have := lists_go E [] h.len h.lt
  refine Ev.congr (fun k => ?_) this
  unfold precedence_listsOf.f
  have := h.le
  rw [if_pos (by omega), if_pos (by omega), Int.toNat_natCast, rep_LI]
  rfl

theorem vI_congr {n : Nat} {f g : Nat → Nat} (h : ∀ j, j < n → f j = g j) : vI n f = vI n g := by
  unfold vI
  exact List.map_congr_left fun j hj => by rw [h j (List.mem_range.1 hj)]
theorem vB_congr {n : Nat} {f g : Nat → Bool} (h : ∀ j, j < n → f j = g j) : vB n f = vB n g := by
  unfold vB
  exact List.map_congr_left fun j hj => h j (List.mem_range.1 hj)
theorem find_at {n : Nat} {f : Nat → Bool} {i : Nat} (hi : i < n) (h : f i = true) (hf : ∀ j, j < i → f j = false) : (List.range n).find? f = some i := by
  rw [List.find?_eq_some_iff_append]
  refine ⟨h, List.range i, (List.range (n - i - 1)).map (i + 1 + ·), ?_, fun a ha => by rw [List.mem_range] at ha; simp [hf a ha]⟩
  rw [show n = i + (1 + (n - i - 1)) by omega, List.range_add, List.range_add]
  simp [Nat.add_assoc]
theorem find_none {n : Nat} {f : Nat → Bool} (hf : ∀ j, j < n → f j = false) : (List.range n).find? f = none := by
  rw [List.find?_eq_none]; intro j hj; rw [List.mem_range] at hj; rw [hf j hj]; decide

section
variable {n : Nat} {E : List (Nat × Nat)}
theorem bh_lt (h : Val n E) (i : Nat) : ∀ x ∈ bh E i, x < n := fun x hx => (h.lt _ (mem_bh.1 hx)).2
theorem bf_lt (h : Val n E) (i : Nat) : ∀ x ∈ bf E i, x < n := fun x hx => (h.lt _ (mem_bf.1 hx)).1
theorem ord3 (h : Val n E) (out : List Nat) (i : Nat) (pl : List Bool) (c : Nat) (hc : c ≤ n) (r : List Int) (H : Ev (fun k => precedence_order.l1 k (vI n (wt E (out ++ [i]))) (toI (out ++ [i])) pl n ((c : Int) + 1) (LI n (bh E)) (LI n (bf E))) r) :
    ∀ (s p : List Nat), (p ++ s).length ≤ 1000 → (∀ x ∈ s, x < n) → Ev (fun k => precedence_order.l3 k (vI n (fun j => wt E (out ++ [i]) j + s.count j)) (toI (out ++ [i])) pl n c (toI (p ++ s)) ((toI (p ++ s)).length : Int) (p.length : Int) (LI n (bh E)) (LI n (bf E))) r
  | [], p, hl, hs => by
    have hn := h.le
    refine Ev.step (fun k => ?_) H
    simp only [precedence_order.l3]
    rw [if_neg (by rw [toI_len]; simp), wr (by omega)]
    simp
  | e :: s, p, hl, hs => by
    have hp : p.length ≤ 1000 := by simp at hl; omega
    have he := hs e (by simp)
    have ih := ord3 h out i pl c hc r H s (p ++ [e]) (by simpa using hl) (fun x hx => hs x (by simp [hx]))
    rw [len_snoc, ← app_snoc] at ih
    refine Ev.step (fun k => ?_) ih
    have hw : wt E (out ++ [i]) e ≤ E.length := by unfold wt; exact List.length_filter_le _ _
    have hcn : (s.count e) ≤ s.length := List.count_le_length
    have hl2 := h.len
    simp only [precedence_order.l3]
    rw [if_pos (toI_lt p s e), if_pos (by omega), if_pos (toI_lt p s e), rd_toI, if_pos (by omega), if_pos (by rw [vI_len]; omega), rd_vI _ he, wr (x := (p.length : Int) + 1) (by omega)]
    simp only [List.length_append, List.length_cons] at hl
    rw [List.count_cons_self, wr (by omega), show ((wt E (out ++ [i]) e + (s.count e + 1) : Nat) : Int) - 1 = ((wt E (out ++ [i]) e + s.count e : Nat) : Int) by omega, set_vI _ _ he]
    congr 1
    refine vI_congr fun j hj => ?_
    dsimp only [upd]
    by_cases q : j = e
    · rw [if_pos q, q]
    · rw [if_neg q, List.count_cons_of_ne (Ne.symm q)]
theorem ord2 (h : Val n E) (out : List Nat) (c : Nat) (r : List Int)
    (H : ∀ j, (List.range n).find? (free E out) = some j → Ev (fun k => precedence_order.j3 k (vI n (wt E out)) (toI out) (vB n fun x => decide (x ∈ out)) (j : Int) n c (LI n (bh E)) (LI n (bf E))) r)
    (H0 : (List.range n).find? (free E out) = none → Ev (fun k => precedence_order.j3 k (vI n (wt E out)) (toI out) (vB n fun x => decide (x ∈ out)) (-1) n c (LI n (bh E)) (LI n (bf E))) r) :
    ∀ (m i : Nat), i + m = n → (∀ j, j < i → free E out j = false) → Ev (fun k => precedence_order.l2 k (vI n (wt E out)) (toI out) (vB n fun x => decide (x ∈ out)) (-1) n c ((vI n (wt E out)).length : Int) (i : Int) (LI n (bh E)) (LI n (bf E))) r
  | 0, i, hi, hf => by
    refine Ev.step (fun k => ?_) (H0 (find_none fun j hj => hf j (by omega)))
    simp only [precedence_order.l2]; rw [if_neg (by rw [vI_len]; omega)]
  | m + 1, i, hi, hf => by
    have hn := h.le
    have hin : i < n := by omega
    have hst : ∀ k, precedence_order.l2 (k + 1) (vI n (wt E out)) (toI out) (vB n fun x => decide (x ∈ out)) (-1) n c ((vI n (wt E out)).length : Int) (i : Int) (LI n (bh E)) (LI n (bf E)) = if free E out i = true then precedence_order.j3 k (vI n (wt E out)) (toI out) (vB n fun x => decide (x ∈ out)) (i : Int) n c (LI n (bh E)) (LI n (bf E)) else precedence_order.l2 k (vI n (wt E out)) (toI out) (vB n fun x => decide (x ∈ out)) (-1) n c ((vI n (wt E out)).length : Int) ((i + 1 : Nat) : Int) (LI n (bh E)) (LI n (bf E)) := fun k => by
      simp only [precedence_order.l2]
      rw [if_pos (by rw [vI_len]; omega), if_pos (by omega), if_pos (by rw [vB_len]; omega), rdB_vB _ hin, wr (by omega)]
      unfold free
      by_cases q : i ∈ out
      · simp [q]
      · rw [if_neg (by simp [q]), if_pos (by rw [vI_len]; omega), rd_vI _ hin]
        by_cases z : wt E out i = 0
        · have := wt_zero.1 z
          simp [q, z, this]
        · have hr : ready E out i = false := Bool.eq_false_iff.2 fun e => z (wt_zero.2 e)
          have hz : ¬ ((wt E out i : Nat) : Int) = 0 := by omega
          rw [if_neg hz]; simp [q, hr]
    by_cases q : free E out i = true
    · exact Ev.step (fun k => by rw [hst, if_pos q]) (H i (find_at hin q hf))
    · refine Ev.step (fun k => by rw [hst, if_neg q]) (ord2 h out c r H H0 m (i + 1) (by omega) (fun j hj => ?_))
      by_cases e : j = i
      · rw [e]; exact Bool.eq_false_iff.2 q
      · exact hf j (by omega)
theorem ord1 (h : Val n E) : ∀ (m : Nat) (out : List Nat) (c : Nat), c + m = n → out.length ≤ c → Gr.Good E n out → Ev (fun k => precedence_order.l1 k (vI n (wt E out)) (toI out) (vB n fun x => decide (x ∈ out)) n c (LI n (bh E)) (LI n (bf E))) (toI (ord E n m out))
  | 0, out, c, hc, ho, hg => Ev.const1 fun k => by simp only [precedence_order.l1]; rw [if_neg (by omega)]; rfl
  | m + 1, out, c, hc, ho, hg => by
    have hn := h.le
    refine Ev.step (f := fun k => precedence_order.l2 k (vI n (wt E out)) (toI out) (vB n fun x => decide (x ∈ out)) (-1) n c ((vI n (wt E out)).length : Int) ((0 : Nat) : Int) (LI n (bh E)) (LI n (bf E))) (fun k => ?_) ?_
    · simp only [precedence_order.l1]; rw [if_pos (by omega)]; rfl
    · refine ord2 h out c _ (fun i hj => ?_) (fun hj => ?_) n 0 (by omega) (fun j hj => absurd hj (by omega))
      · obtain ⟨hi, him, hir⟩ := next_some (E := E) (n := n) (out := out) (i := i) hj
        have ih := ord1 h m (out ++ [i]) (c + 1) (by omega) (by simp; omega) (good_snoc hg hi him hir)
        have h3 := ord3 h out i (vB n fun x => decide (x ∈ out ++ [i])) c (by omega) (toI (ord E n m (out ++ [i]))) ih (bh E i) [] (by have := bh_len E i; have := h.len; simp; omega) (bh_lt h i)
        have e1 : vI n (fun j => wt E (out ++ [i]) j + (bh E i).count j) = vI n (wt E out) := vI_congr fun j _ => (wt_snoc him j E).symm
        rw [e1] at h3
        simp only [ord, next, hj]
        refine Ev.step (fun k => ?_) h3
        simp only [precedence_order.j3]
        rw [if_neg (by omega), if_pos (by omega), if_pos (by rw [vB_len]; omega), if_pos (by rw [toI_len]; omega), if_pos (by rw [LI_len]; omega), rdL_LI _ hi, set_vB _ _ hi]
        rw [show toI out ++ [(i : Int)] = toI (out ++ [i]) by rw [toI_app]; rfl]
        have e2 : (vB n fun j => if j = i then true else decide (j ∈ out)) = vB n fun x => decide (x ∈ out ++ [i]) := vB_congr fun j _ => by
          by_cases q : j = i <;> simp [q]
        rw [e2]; rfl
      · simp only [ord, next, hj]
        exact Ev.const1 fun k => by simp only [precedence_order.j3]; rw [if_pos (by omega)]
theorem ord0 (h : Val n E) : ∀ (m i : Nat), i + m = n → Ev (fun k => precedence_order.l0 k (vI n (fun j => if j < i then wt E [] j else 0)) n i n (emb E) (LI n (bh E)) (LI n (bf E))) (toI (order E n))
  | 0, i, hi => by
    have hn := h.le
    have := ord1 h n [] 0 (by omega) (by simp) (good_nil E n)
    refine Ev.step (fun k => ?_) this
    simp only [precedence_order.l0]
    rw [if_neg (by omega), if_pos (by omega), if_pos (by omega), Int.toNat_natCast, rep_vB]
    have e1 : vI n (fun j => if j < i then wt E [] j else 0) = vI n (wt E []) := vI_congr fun j hj => by rw [if_pos (by omega)]
    rw [e1]
    have e2 : vB n (fun _ => false) = vB n fun x => decide (x ∈ ([] : List Nat)) := vB_congr fun j _ => by simp
    rw [e2]; rfl
  | m + 1, i, hi => by
    have hn := h.le
    have hin : i < n := by omega
    have ih := ord0 h m (i + 1) (by omega)
    refine Ev.step (fun k => ?_) ih
    simp only [precedence_order.l0]
    rw [if_pos (by omega), if_pos (by omega), if_pos (by rw [LI_len]; omega), if_pos (by rw [vI_len]; omega), rdL_LI _ hin, toI_len, set_vI _ _ hin, wr (by omega)]
    have e1 : vI n (upd (fun j => if j < i then wt E [] j else 0) i (bf E i).length) = vI n (fun j => if j < i + 1 then wt E [] j else 0) := vI_congr fun j hj => by
      dsimp only [upd]
      by_cases q : j = i
      · rw [if_pos q, if_pos (by omega), q, wt_nil]
      · rw [if_neg q]
        by_cases z : j < i
        · rw [if_pos z, if_pos (by omega)]
        · rw [if_neg z, if_neg (by omega)]
    rw [e1]; rfl
theorem order_ev (h : Val n E) : Ev (fun k => precedence_order.f k n (emb E)) (toI (order E n)) := by
  have hn := h.le
  unfold precedence_order.f
  refine Ev.bind (f := fun k (b : List (List Int) × List (List Int)) => if 0 ≤ (n : Int) then (if ((n : Int)).toNat ≤ 35184372088832 then ((some (List.replicate ((n : Int)).toNat 0 : List Int)).bind fun y => precedence_order.l0 k y (y.length : Int) 0 n (emb E) b.1 b.2) else none) else none) (lists_ev h) ?_
  refine Ev.congr (fun k => ?_) (ord0 h n 0 (by omega))
  rw [if_pos (by omega), if_pos (by omega), Int.toNat_natCast]
  simp only [Option.bind_some]
  rw [rep_vI, vI_len]
  rfl
def srt (n : Nat) (E : List (Nat × Nat)) : List Int × Int := if (order E n).length < n then ([], 13) else (toI (order E n), 0)
theorem sorted_ev (h : Val n E) : Ev (fun k => precedence_sorted.f k n (emb E)) (srt n E) := by
  unfold precedence_sorted.f
  refine Ev.bind (f := fun k t => (if t = 0 then ((precedence_order.f k n (emb E)).bind fun t209 => (if (t209.length : Int) < n then (some (([] : List Int), (13 : Int))) else (some (t209, (0 : Int))))) else (some (([] : List Int), t)))) (Check_ev n (emb E) (by rw [emb_len]; exact h.len)) ?_
  simp only [val_chk h, if_true]
  refine Ev.bind (f := fun k (t209 : List Int) => (if (t209.length : Int) < n then (some (([] : List Int), (13 : Int))) else (some (t209, (0 : Int))))) (order_ev h) (Ev.const fun k => ?_)
  unfold srt
  rw [toI_len]
  by_cases q : (order E n).length < n
  · rw [if_pos (by omega), if_pos q]
  · rw [if_neg (by omega), if_neg q]
end
theorem sorted_bad {m : Int} {l : List S47} (hl : l.length ≤ 1000) (h : chk m l ≠ 0) : Ev (fun k => precedence_sorted.f k m l) ([], chk m l) := by
  unfold precedence_sorted.f
  refine Ev.bind (f := fun k t => (if t = 0 then ((precedence_order.f k m l).bind fun t209 => (if (t209.length : Int) < m then (some (([] : List Int), (13 : Int))) else (some (t209, (0 : Int))))) else (some (([] : List Int), t)))) (Check_ev m l hl) ?_
  simp only [if_neg h]
  exact Ev.const fun k => rfl
theorem Order_sorted {m : Int} {l : List S47} {r : List Int × Int} (h : Ev (fun k => precedence_sorted.f k m l) r) : Ev (fun k => precedence_Order.f k m l) r := by
  unfold precedence_Order.f
  exact Ev.bind (f := fun _ (b : List Int × Int) => some (b.1, b.2)) h (Ev.const fun k => rfl)
def isO (n : Nat) (E : List (Nat × Nat)) (l : List Int) : Prop := ∃ q, l = toI q ∧ q.length = n ∧ Gr.Good E n q
theorem toI_inj {a b : List Nat} (h : toI a = toI b) : a = b := by
  induction a generalizing b with
  | nil => cases b with
    | nil => rfl
    | cons x b => simp [toI] at h
  | cons y a ih => cases b with
    | nil => simp [toI] at h
    | cons x b =>
      simp only [toI, List.map_cons, List.cons.injEq] at h
      rw [ih h.2, show y = x by omega]
theorem toI_split {p : List Nat} {x : Int} {s : List Int} : ∀ {q : List Nat}, toI p ++ x :: s = toI q → ∃ (y : Nat) (t : List Nat), q = p ++ y :: t ∧ x = (y : Int) ∧ s = toI t := by
  induction p with
  | nil =>
    intro q h
    cases q with
    | nil => simp [toI] at h
    | cons y t =>
      simp only [toI, List.map_nil, List.nil_append, List.map_cons, List.cons.injEq] at h
      exact ⟨y, t, rfl, h.1, h.2⟩
  | cons a p ih =>
    intro q h
    cases q with
    | nil => simp [toI] at h
    | cons b q =>
      simp only [toI, List.map_cons, List.cons_append, List.cons.injEq] at h
      obtain ⟨y, t, h1, h2, h3⟩ := ih h.2
      exact ⟨y, t, by rw [h1, show b = a by omega]; rfl, h2, h3⟩
def pl (p : List Nat) (j : Nat) : Nat := if j ∈ p then p.idxOf j + 1 else 0
theorem pl_snoc {p : List Nat} {x : Nat} (h : x ∉ p) (j : Nat) : pl (p ++ [x]) j = upd (pl p) x (p.length + 1) j := by
  dsimp only [pl, upd]
  by_cases q : j = x
  · subst q
    rw [if_pos (by simp), if_pos rfl, List.idxOf_append, if_neg h]; simp
  · rw [if_neg q]
    by_cases z : j ∈ p
    · rw [if_pos (by simp [z]), if_pos z, List.idxOf_append, if_pos z]
    · rw [if_neg (by simp [z, q]), if_neg z]
section
variable {n : Nat} {E : List (Nat × Nat)}
theorem isIdx {g : Nat → Nat} (m : Nat) : ∀ (s p : List (Nat × Nat)), (p ++ s).length ≤ 1000 → (∀ e ∈ s, e.1 < m ∧ e.2 < m) → ∃ r, Ev (fun k => slices_IndexFunc_2_int_2_int_by_precedence_Is_1.l0 k (emb (p ++ s)) ((emb (p ++ s)).length : Int) (p.length : Int) (vI m g)) r ∧ decide (r ≥ 0) = s.any fun e => decide (g e.1 ≥ g e.2)
  | [], p, hl, hs => ⟨-1, Ev.const1 fun k => by simp only [slices_IndexFunc_2_int_2_int_by_precedence_Is_1.l0]; rw [if_neg (by rw [emb_len]; simp)], by simp⟩
  | e :: s, p, hl, hs => by
    have hp : p.length ≤ 1000 := by simp at hl; omega
    obtain ⟨h1, h2⟩ := hs e (by simp)
    have hst : ∀ k, slices_IndexFunc_2_int_2_int_by_precedence_Is_1.l0 (k + 1) (emb (p ++ e :: s)) ((emb (p ++ e :: s)).length : Int) (p.length : Int) (vI m g) = if g e.1 ≥ g e.2 then some (p.length : Int) else slices_IndexFunc_2_int_2_int_by_precedence_Is_1.l0 k (emb (p ++ e :: s)) ((emb (p ++ e :: s)).length : Int) ((p.length : Int) + 1) (vI m g) := fun k => by
      simp only [slices_IndexFunc_2_int_2_int_by_precedence_Is_1.l0]
      rw [if_pos (emb_lt p s e), if_pos (by omega), if_pos (emb_lt p s e), rdT_emb, em_0, em_1, wr (by omega)]
      unfold precedence_Is_1.f
      rw [if_pos (by omega), if_pos (by rw [vI_len]; omega), if_pos (by omega), if_pos (by rw [vI_len]; omega), rd_vI _ h1, rd_vI _ h2]
      simp only [Option.bind_some, decide_eq_true_eq]
      by_cases q : g e.1 ≥ g e.2
      · rw [if_pos q, if_pos (by omega)]
      · rw [if_neg q, if_neg (by omega)]
    by_cases q : g e.1 ≥ g e.2
    · exact ⟨p.length, Ev.const1 fun k => by rw [hst, if_pos q], by simp [q]⟩
    · obtain ⟨r, hr, hd⟩ := isIdx m s (p ++ [e]) (by simpa using hl) (fun e he => hs e (by simp [he]))
      rw [len_snoc, ← app_snoc] at hr
      exact ⟨r, Ev.step (fun k => by rw [hst, if_neg q]) hr, by rw [hd]; simp [q]⟩
theorem is_go (h : Val n E) : ∀ (s : List Int) (p : List Nat), p.length + s.length = n → p.Nodup → (∀ x ∈ p, x < n) →
    ∃ b, Ev (fun k => precedence_Is.l0 k (toI p ++ s) ((toI p ++ s).length : Int) (p.length : Int) n (emb E) (vI n (pl p))) b ∧ (b = true ↔ isO n E (toI p ++ s))
  | [], p, hl, hd, hp => by
    have hn := h.le
    obtain ⟨r, hr, hb⟩ := isIdx (g := pl p) n E [] h.len h.lt
    refine ⟨!(E.any fun e => decide (pl p e.1 ≥ pl p e.2)), Ev.step (f := fun k => (slices_ContainsFunc_2_int_2_int_by_precedence_Is_1.f k (emb E) (vI n (pl p))).bind fun t => some (!t)) (fun k => ?_) ?_, ?_⟩
    · simp only [precedence_Is.l0]; rw [if_neg (by simp [toI_len])]
    · refine Ev.bind (a := E.any fun e => decide (pl p e.1 ≥ pl p e.2)) (f := fun _ t => some (!t)) ?_ (Ev.const fun k => rfl)
      unfold slices_ContainsFunc_2_int_2_int_by_precedence_Is_1.f slices_IndexFunc_2_int_2_int_by_precedence_Is_1.f
      refine Ev.bind (a := r) (f := fun _ t => some (decide (t ≥ 0))) hr (Ev.const fun k => ?_)
      rw [hb]
    · have hln : p.length = n := by simpa using hl
      have hcov := Gr.cover n p hd hp (by omega)
      rw [List.append_nil]
      have hi := is_iff h.lt hd hp hln
      constructor
      · intro hb
        refine ⟨p, rfl, hln, hi.2 fun a b hab => ?_⟩
        simp only [Bool.not_eq_true', List.any_eq_false, decide_eq_true_eq] at hb
        have := hb _ hab
        unfold pl at this
        rw [if_pos (hcov _ (h.lt _ hab).1), if_pos (hcov _ (h.lt _ hab).2)] at this
        dsimp only at this
        omega
      · rintro ⟨q, e, hq, hg⟩
        have := toI_inj e
        subst this
        simp only [Bool.not_eq_true', List.any_eq_false, decide_eq_true_eq]
        intro x hx
        have := hi.1 hg x.1 x.2 hx
        unfold pl
        rw [if_pos (hcov _ (h.lt _ hx).1), if_pos (hcov _ (h.lt _ hx).2)]
        omega
  | x :: s, p, hl, hd, hp => by
    have hn := h.le
    simp only [List.length_cons] at hl
    have hlt : (p.length : Int) < ((toI p ++ x :: s).length : Int) := by rw [← toI_len p]; exact len_app _ _ _
    have hrd : rd (toI p ++ x :: s) (p.length : Int) = x := by rw [← toI_len p]; exact rd_app _ _ _
    by_cases h1 : x < 0
    · refine ⟨false, Ev.const1 fun k => ?_, by simp; rintro ⟨q, e, _⟩; obtain ⟨y, t, _, hx, _⟩ := toI_split e; omega⟩
      simp only [precedence_Is.l0]; rw [if_pos hlt, if_pos (by omega), if_pos hlt, hrd, if_pos h1]
    · by_cases h2 : x ≥ n
      · refine ⟨false, Ev.const1 fun k => ?_, by simp; rintro ⟨q, e, _, hg⟩; obtain ⟨y, t, hq, hx, _⟩ := toI_split e; have := hg.2.1 y (by rw [hq]; simp); omega⟩
        simp only [precedence_Is.l0]; rw [if_pos hlt, if_pos (by omega), if_pos hlt, hrd, if_neg h1, if_pos h2]
      · obtain ⟨y, rfl⟩ : ∃ y : Nat, x = y := ⟨x.toNat, by omega⟩
        have hy : y < n := by omega
        have hst : ∀ k, precedence_Is.l0 (k + 1) (toI p ++ (y : Int) :: s) ((toI p ++ (y : Int) :: s).length : Int) (p.length : Int) n (emb E) (vI n (pl p)) = if y ∈ p then some false else precedence_Is.l0 k (toI p ++ (y : Int) :: s) ((toI p ++ (y : Int) :: s).length : Int) ((p.length : Int) + 1) n (emb E) (vI n (pl (p ++ [y]))) := fun k => by
          simp only [precedence_Is.l0]
          rw [if_pos hlt, if_pos (by omega), if_pos hlt, hrd, if_neg h1, if_neg h2, if_pos (by omega), if_pos (by rw [vI_len]; omega), rd_vI _ hy, wr (by omega)]
          by_cases q : y ∈ p
          · rw [if_pos q, if_pos (by unfold pl; rw [if_pos q]; omega)]
          · rw [if_neg q, if_neg (by unfold pl; rw [if_neg q]; omega), show (p.length : Int) + 1 = ((p.length + 1 : Nat) : Int) by omega, set_vI _ _ hy]
            congr 1
            exact vI_congr fun j _ => (pl_snoc q j).symm
        by_cases q : y ∈ p
        · refine ⟨false, Ev.const1 fun k => by rw [hst, if_pos q], by simp; rintro ⟨z, e, _, hg⟩; obtain ⟨w, t, hz, hx, _⟩ := toI_split e; rw [hz] at hg; have := (List.nodup_append.1 hg.1).2.2 y q w (by simp); omega⟩
        · obtain ⟨b, hb, hi⟩ := is_go h s (p ++ [y]) (by simp; omega) (by
            rw [List.nodup_append]
            refine ⟨hd, by simp, fun a ha c hc => ?_⟩
            simp only [List.mem_singleton] at hc
            rw [hc]; exact fun e => q (e ▸ ha)) (fun z hz => by
            rcases List.mem_append.1 hz with hz | hz
            · exact hp z hz
            · simp only [List.mem_singleton] at hz; omega)
          rw [show toI (p ++ [y]) ++ s = toI p ++ (y : Int) :: s by rw [toI_app, List.append_assoc]; rfl] at hb hi
          rw [len_snoc] at hb
          exact ⟨b, Ev.step (fun k => by rw [hst, if_neg q]) hb, hi⟩
theorem Is_ev (h : Val n E) (l : List Int) (hl : l.length ≤ 1000) : ∃ b, Ev (fun k => precedence_Is.f k n (emb E) l) b ∧ (b = true ↔ isO n E l) := by
  have hn := h.le
  unfold precedence_Is.f
  have hc : ∀ (b : Bool), Ev (fun k => precedence_Is.j0 k l ((l.length : Int) != n) n (emb E)) b → Ev (fun k => (precedence_Check.f k n (emb E)).bind fun t354 => (if t354 = 0 then (precedence_Is.j0 k l ((l.length : Int) != n) n (emb E)) else (precedence_Is.j0 k l true n (emb E)))) b := fun b hb => by
    refine Ev.bind (f := fun k t354 => (if t354 = 0 then (precedence_Is.j0 k l ((l.length : Int) != n) n (emb E)) else (precedence_Is.j0 k l true n (emb E)))) (Check_ev n (emb E) (by rw [emb_len]; exact h.len)) ?_
    simp only [val_chk h, if_true]
    exact hb
  by_cases q : l.length = n
  · obtain ⟨b, hb, hi⟩ := is_go h l [] (by simpa using q) List.nodup_nil (by simp)
    refine ⟨b, hc b ?_, by simpa [toI] using hi⟩
    refine Ev.step (fun k => ?_) hb
    have hq : ((l.length : Int) != n) = false := by rw [bne_eq_false_iff_eq]; omega
    rw [hq]
    simp only [precedence_Is.j0, Bool.false_eq_true, if_false]
    rw [if_pos (by omega), if_pos (by omega), Int.toNat_natCast, rep_vI]
    rfl
  · refine ⟨false, hc false ?_, ?_⟩
    · have hq : ((l.length : Int) != n) = true := by rw [bne_iff_ne]; omega
      rw [hq]
      exact Ev.const1 fun k => rfl
    · simp only [Bool.false_eq_true, false_iff]
      rintro ⟨z, e, hz, _⟩
      exact q (by rw [e, toI_len]; exact hz)
end
theorem same_go : ∀ (s t p q : List Int), p.length = q.length → s.length = t.length → (p ++ s).length ≤ 1000 → Ev (fun k => rf_SameInts.l0 k (p ++ s) (q ++ t) (p.length : Int)) (decide (s = t))
  | [], [], p, q, h1, h2, hl => Ev.const1 fun k => by simp only [rf_SameInts.l0]; rw [if_neg (by simp)]; simp
  | x :: s, y :: t, p, q, h1, h2, hl => by
    have hp : p.length ≤ 1000 := by simp at hl; omega
    have hst : ∀ k, rf_SameInts.l0 (k + 1) (p ++ x :: s) (q ++ y :: t) (p.length : Int) = if x = y then rf_SameInts.l0 k (p ++ x :: s) (q ++ y :: t) ((p.length : Int) + 1) else some false := fun k => by
      simp only [rf_SameInts.l0]
      rw [if_pos (len_app p s x), if_pos (by omega), rd_app, h1, if_pos (len_app q t y), rd_app, ← h1, wr (by omega)]
    by_cases e : x = y
    · have ih := same_go s t (p ++ [x]) (q ++ [y]) (by simp [h1]) (by simpa using h2) (by simpa using hl)
      rw [len_snoc, ← app_snoc, ← app_snoc] at ih
      exact Ev.step (fun k => by rw [hst, if_pos e]) (Ev.eq ih (by simp [e]))
    · exact Ev.const1 fun k => by rw [hst, if_neg e]; simp [e]
theorem Same_ev (a b : List Int) (h : a.length ≤ 1000) : Ev (fun k => rf_SameInts.f k a b) (decide (a = b)) := by
  unfold rf_SameInts.f
  by_cases q : a.length = b.length
  · refine Ev.congr (fun k => by rw [if_pos (by omega)]) ?_
    simpa using same_go a b [] [] rfl q h
  · refine Ev.const fun k => ?_
    rw [if_neg (by omega)]
    have : a ≠ b := fun e => q (by rw [e])
    simp [this]
section
variable {n : Nat} {E : List (Nat × Nat)}
theorem nd1 (h : Val n E) (t p : Nat) (hp : p ≤ 1000) (R : List Bool) : ∀ (s pre r : List Nat), (pre ++ s).length ≤ 1000 → (∀ x ∈ s, x < n) → r.Nodup → (∀ x ∈ r, x < n) →
    Ev (fun k => precedence_needs.l0 k (vB n fun x => decide (x ∈ grow s r)) (toI (t :: grow s r)) ((p : Int) + 1) (LI n (bh E)) (LI n (bf E))) R →
    Ev (fun k => precedence_needs.l1 k (vB n fun x => decide (x ∈ r)) (toI (t :: r)) p (toI (pre ++ s)) ((toI (pre ++ s)).length : Int) (pre.length : Int) (LI n (bh E)) (LI n (bf E))) R
  | [], pre, r, hl, hs, hd, hr, H => by
    refine Ev.step (fun k => ?_) H
    simp only [precedence_needs.l1]
    rw [if_neg (by rw [toI_len]; simp), wr (by omega)]
    rfl
  | e :: s, pre, r, hl, hs, hd, hr, H => by
    have hn := h.le
    have hpre : pre.length ≤ 1000 := by simp at hl; omega
    have he := hs e (by simp)
    have hrl := few n r hd hr
    have hst : ∀ k, precedence_needs.l1 (k + 1) (vB n fun x => decide (x ∈ r)) (toI (t :: r)) p (toI (pre ++ e :: s)) ((toI (pre ++ e :: s)).length : Int) (pre.length : Int) (LI n (bh E)) (LI n (bf E)) = if e ∈ r then precedence_needs.l1 k (vB n fun x => decide (x ∈ r)) (toI (t :: r)) p (toI (pre ++ e :: s)) ((toI (pre ++ e :: s)).length : Int) ((pre.length : Int) + 1) (LI n (bh E)) (LI n (bf E)) else precedence_needs.l1 k (vB n fun x => decide (x ∈ r ++ [e])) (toI (t :: (r ++ [e]))) p (toI (pre ++ e :: s)) ((toI (pre ++ e :: s)).length : Int) ((pre.length : Int) + 1) (LI n (bh E)) (LI n (bf E)) := fun k => by
      simp only [precedence_needs.l1]
      rw [if_pos (toI_lt pre s e), if_pos (by omega), if_pos (toI_lt pre s e), rd_toI, if_pos (by omega), if_pos (by rw [vB_len]; omega), rdB_vB _ he, wr (by omega)]
      by_cases q : e ∈ r
      · rw [if_pos (by simp [q]), if_pos q]
      · rw [if_neg (by simp [q]), if_neg q, if_pos (by rw [toI_len]; simp; omega), set_vB _ _ he]
        rw [show toI (t :: r) ++ [(e : Int)] = toI (t :: (r ++ [e])) by rw [← List.cons_append, toI_app]; rfl]
        have e2 : (vB n fun j => if j = e then true else decide (j ∈ r)) = vB n fun x => decide (x ∈ r ++ [e]) := vB_congr fun j _ => by
          by_cases q : j = e <;> simp [q]
        rw [e2]
    by_cases q : e ∈ r
    · have ih := nd1 h t p hp R s (pre ++ [e]) r (by simpa using hl) (fun x hx => hs x (by simp [hx])) hd hr (by simpa only [grow, if_pos q] using H)
      rw [len_snoc, ← app_snoc] at ih
      exact Ev.step (fun k => by rw [hst, if_pos q]) ih
    · have ih := nd1 h t p hp R s (pre ++ [e]) (r ++ [e]) (by simpa using hl) (fun x hx => hs x (by simp [hx])) (by
        rw [List.nodup_append]
        refine ⟨hd, by simp, fun a ha b hb => ?_⟩
        simp only [List.mem_singleton] at hb
        rw [hb]; exact fun z => q (z ▸ ha)) (fun x hx => by
        rcases List.mem_append.1 hx with z | z
        · exact hr x z
        · simp only [List.mem_singleton] at z; omega) (by simpa only [grow, if_neg q] using H)
      rw [len_snoc, ← app_snoc] at ih
      exact Ev.step (fun k => by rw [hst, if_neg q]) ih
theorem nd0 (h : Val n E) {t : Nat} (ht : t < n) : ∀ (m p : Nat) (r : List Nat), r.Nodup → (∀ x ∈ r, x < n) → p ≤ r.length + 1 → n + 2 ≤ m + p →
    Ev (fun k => precedence_needs.l0 k (vB n fun x => decide (x ∈ r)) (toI (t :: r)) p (LI n (bh E)) (LI n (bf E))) (vB n fun x => decide (x ∈ srch E t m p r))
  | 0, p, r, hd, hr, hp, hm => by have := few n r hd hr; omega
  | m + 1, p, r, hd, hr, hp, hm => by
    have hn := h.le
    have hrl := few n r hd hr
    cases e : (t :: r)[p]? with
    | none =>
      simp only [srch, e]
      rw [List.getElem?_eq_none_iff] at e
      refine Ev.const1 fun k => ?_
      simp only [precedence_needs.l0]
      rw [if_neg (by rw [toI_len]; omega)]
    | some x =>
      simp only [srch, e]
      obtain ⟨hpl, hx⟩ := List.getElem?_eq_some_iff.1 e
      have hxn : x < n := by
        rcases List.mem_cons.1 (hx ▸ List.getElem_mem hpl) with z | z
        · omega
        · exact hr x z
      have hxe : rd (toI (t :: r)) (p : Int) = x := by
        simp only [rd, toI, List.getD_eq_getElem?_getD, Int.toNat_natCast, List.getElem?_map, e]; rfl
      have hb := bf_len E x
      have hlen := h.len
      obtain ⟨g1, g2, u, g3⟩ := grow_spec (bf E x) r hd
      have ih := nd0 h ht m (p + 1) (grow (bf E x) r) g1 (fun y hy => by
        rcases (g2 y).1 hy with z | z
        · exact hr y z
        · exact bf_lt h x y z) (by rw [g3]; simp only [List.length_append, List.length_cons] at hpl ⊢; omega) (by omega)
      have h1 := nd1 h t p (by omega) _ (bf E x) [] r (by simp; omega) (bf_lt h x) hd hr ih
      refine Ev.step (fun k => ?_) h1
      simp only [precedence_needs.l0]
      rw [if_pos (by rw [toI_len]; omega), if_pos (by omega), hxe, if_pos (by omega), if_pos (by rw [LI_len]; omega), rdL_LI _ hxn]
      rfl
theorem needs_ev (h : Val n E) {t : Nat} (ht : t < n) : Ev (fun k => precedence_needs.f k (LI n (bh E)) (LI n (bf E)) t) (vB n fun x => decide (x ∈ srch E t (n + 2) 0 [])) := by
  have hn := h.le
  refine Ev.congr (fun k => ?_) (nd0 h ht (n + 2) 0 [] List.nodup_nil (by simp) (by simp) (by omega))
  unfold precedence_needs.f
  rw [if_pos (by omega), if_pos (by rw [LI_len]; omega), LI_len, Int.toNat_natCast, rep_vB]
  have e2 : vB n (fun _ => false) = vB n fun x => decide (x ∈ ([] : List Nat)) := vB_congr fun j _ => by simp
  rw [e2]; rfl
theorem ind_go (hn : n ≤ 256) (g : Nat → Bool) : ∀ (m i : Nat), i + m = n → Ev (fun k => precedence_indices.l0 k (toI ((List.range i).filter g)) (vB n g) ((vB n g).length : Int) i) (toI ((List.range n).filter g))
  | 0, i, hi => by
    obtain rfl : i = n := by omega
    exact Ev.const1 fun k => by simp only [precedence_indices.l0]; rw [if_neg (by rw [vB_len]; omega)]
  | m + 1, i, hi => by
    have hin : i < n := by omega
    have hfl : ((List.range i).filter g).length ≤ i := by have := List.length_filter_le g (List.range i); rwa [List.length_range] at this
    refine Ev.step (fun k => ?_) (ind_go hn g m (i + 1) (by omega))
    simp only [precedence_indices.l0]
    rw [if_pos (by rw [vB_len]; omega), if_pos (by omega), if_pos (by rw [vB_len]; omega), rdB_vB _ hin, wr (by omega), List.range_succ, List.filter_append]
    by_cases q : g i = true
    · rw [if_pos q, if_pos (by rw [toI_len]; omega)]
      simp only [List.filter_cons, q, if_true, List.filter_nil, toI_app]
      rfl
    · rw [if_neg q]
      simp only [List.filter_cons, q, Bool.false_eq_true, if_false, List.filter_nil, List.append_nil]
      rfl
theorem ind_ev (hn : n ≤ 256) (g : Nat → Bool) : Ev (fun k => precedence_indices.f k (vB n g)) (toI ((List.range n).filter g)) := ind_go hn g n 0 (by omega)
def nds (n : Nat) (E : List (Nat × Nat)) (t : Nat) : List Nat := (List.range n).filter fun a => decide (a ∈ srch E t (n + 2) 0 [])
theorem mem_nds (h : Val n E) {t : Nat} (ht : t < n) (a : Nat) : a ∈ nds n E t ↔ Need E a t := by
  have hs := srch_spec (E := E) (n := n) (t := t) h.lt (n + 2) 0 [] List.nodup_nil (by simp) (by simp) (by intro j hj; omega) (by omega) a
  unfold nds
  rw [List.mem_filter, List.mem_range, decide_eq_true_eq, hs]
  refine ⟨fun q => q.2, fun q => ⟨?_, q⟩⟩
  obtain ⟨c, hc, _⟩ := need_cons q
  exact (h.lt _ hc).1
theorem Needs_ev (h : Val n E) {t : Nat} (ht : t < n) : Ev (fun k => precedence_Needs.f k n (emb E) t) (toI (nds n E t), 0) := by
  unfold precedence_Needs.f
  refine Ev.bind (f := fun k t166 => (if t166 = 0 then (if (t : Int) < 0 then (precedence_Needs.j0 k t true n (emb E)) else (precedence_Needs.j0 k t (decide ((t : Int) ≥ n)) n (emb E))) else (some (([] : List Int), t166)))) (Check_ev n (emb E) (by rw [emb_len]; exact h.len)) ?_
  simp only [val_chk h, if_true]
  simp only [if_neg (show ¬ (t : Int) < 0 by omega), decide_eq_false (show ¬ (t : Int) ≥ n by omega)]
  refine Ev.step (f := fun k => (precedence_listsOf.f k n (emb E)).bind fun bt167 => ((precedence_needs.f k bt167.1 bt167.2 t).bind fun t173 => ((precedence_indices.f k t173).bind fun t176 => (some (t176, (0 : Int)))))) (fun k => rfl) ?_
  refine Ev.bind (f := fun k (bt167 : List (List Int) × List (List Int)) => ((precedence_needs.f k bt167.1 bt167.2 t).bind fun t173 => ((precedence_indices.f k t173).bind fun t176 => (some (t176, (0 : Int)))))) (lists_ev h) ?_
  refine Ev.bind (f := fun k t173 => ((precedence_indices.f k t173).bind fun t176 => (some (t176, (0 : Int))))) (needs_ev h ht) ?_
  exact Ev.bind (f := fun k t176 => (some (t176, (0 : Int)))) (ind_ev h.le _) (Ev.const fun k => rfl)
end
section
variable {n : Nat} {E : List (Nat × Nat)}
theorem mx_nat (a b : Nat) : mx (a : Int) (b : Int) = ((max a b : Nat) : Int) := by
  unfold mx
  split
  · rw [Nat.max_eq_right (by omega)]
  · rw [Nat.max_eq_left (by omega)]
theorem lv1 (h : Val n E) (i : Nat) (hi : i < n) (q : List Int) (x27 : Int) (hx : 0 ≤ x27 ∧ x27 ≤ 1000) (R : List Int × Int) : ∀ (s pre : List Nat) (lv : Nat → Nat) (B : Nat), (pre ++ s).length ≤ 1000 → (∀ x ∈ s, x < n) → (∀ x, lv x ≤ B) → B + s.length ≤ 10000000 →
    (∀ lv', lv' = lvl1 i s lv → (∀ x, lv' x ≤ B + s.length) → Ev (fun k => precedence_Levels.l0 k (vI n lv') q (q.length : Int) (x27 + 1) (LI n (bh E)) (LI n (bf E))) R) →
    Ev (fun k => precedence_Levels.l1 k (vI n lv) i q (q.length : Int) x27 (toI (pre ++ s)) ((toI (pre ++ s)).length : Int) (pre.length : Int) (LI n (bh E)) (LI n (bf E))) R
  | [], pre, lv, B, hl, hs, hlv, hB, H => by
    refine Ev.step (fun k => ?_) (H lv rfl (fun x => by have := hlv x; simpa using this))
    simp only [precedence_Levels.l1]
    rw [if_neg (by rw [toI_len]; simp), wr (by omega)]
  | e :: s, pre, lv, B, hl, hs, hlv, hB, H => by
    have hpre : pre.length ≤ 1000 := by simp at hl; omega
    have he := hs e (by simp)
    have h1 := hlv i
    have h2 := hlv e
    have ih := lv1 h i hi q x27 hx R s (pre ++ [e]) (upd lv i (max (lv i) (lv e + 1))) (B + 1) (by simpa using hl) (fun x hx => hs x (by simp [hx])) (fun x => by
      unfold upd
      split
      · omega
      · have := hlv x; omega)
    simp only [List.length_cons] at hB
    have ih := ih (by omega) (fun lv' e1 e2 => H lv' e1 (fun x => by have := e2 x; simp only [List.length_cons]; omega))
    rw [len_snoc, ← app_snoc] at ih
    refine Ev.step (fun k => ?_) ih
    simp only [precedence_Levels.l1]
    rw [if_pos (toI_lt pre s e), if_pos (by omega), if_pos (toI_lt pre s e), if_pos (by omega), if_pos (by rw [vI_len]; omega), rd_toI, if_pos (by omega), if_pos (by rw [vI_len]; omega), rd_vI _ hi, rd_vI _ he, wr (x := (lv e : Int) + 1) (by omega), wr (by omega), show (lv e : Int) + 1 = ((lv e + 1 : Nat) : Int) by omega, mx_nat, set_vI _ _ hi]
theorem lv0 (h : Val n E) : ∀ (s p : List Nat) (lv : Nat → Nat), (p ++ s).length ≤ 256 → (∀ x ∈ s, x < n) → (∀ x, lv x ≤ 1000 * p.length) →
    Ev (fun k => precedence_Levels.l0 k (vI n lv) (toI (p ++ s)) ((toI (p ++ s)).length : Int) (p.length : Int) (LI n (bh E)) (LI n (bf E))) (vI n (lvls E s lv), 0)
  | [], p, lv, hl, hs, hB => Ev.const1 fun k => by simp only [precedence_Levels.l0]; rw [if_neg (by rw [toI_len]; simp)]; rfl
  | i :: s, p, lv, hl, hs, hB => by
    have hp : p.length ≤ 256 := by simp at hl; omega
    have hi := hs i (by simp)
    have hb := bf_len E i
    have hlen := h.len
    have h1 := lv1 h i hi (toI (p ++ i :: s)) (p.length : Int) (by omega) (vI n (lvls E (i :: s) lv), 0) (bf E i) [] lv (1000 * p.length) (by simp; omega) (bf_lt h i) hB (by omega) (fun lv' e1 e2 => by
      have ih := lv0 h s (p ++ [i]) lv' (by simpa using hl) (fun x hx => hs x (by simp [hx])) (fun x => by have := e2 x; simp only [List.length_append, List.length_cons, List.length_nil]; omega)
      rw [len_snoc, ← app_snoc] at ih
      simp only [lvls, ← e1]
      exact ih)
    refine Ev.step (fun k => ?_) h1
    simp only [precedence_Levels.l0]
    rw [if_pos (toI_lt p s i), if_pos (by omega), if_pos (toI_lt p s i), rd_toI, if_pos (by omega), if_pos (by rw [LI_len]; omega), rdL_LI _ hi]
    rfl
def lvs (n : Nat) (E : List (Nat × Nat)) : List Int × Int := if (order E n).length < n then ([], 13) else (vI n (lvls E (order E n) fun _ => 0), 0)
theorem Levels_ev (h : Val n E) : Ev (fun k => precedence_Levels.f k n (emb E)) (lvs n E) := by
  have hn := h.le
  unfold precedence_Levels.f
  refine Ev.bind (f := fun k (b : List Int × Int) => (if b.2 = 0 then ((precedence_listsOf.f k n (emb E)).bind fun bt => (if 0 ≤ (n : Int) then (if ((n : Int) : Int).toNat ≤ 35184372088832 then (precedence_Levels.l0 k (List.replicate ((n : Int) : Int).toNat 0) b.1 (b.1.length : Int) 0 bt.1 bt.2) else (none)) else (none))) else (some (([] : List Int), b.2)))) (sorted_ev h) ?_
  unfold srt lvs
  by_cases q : (order E n).length < n
  · simp only [if_pos q]
    exact Ev.const fun k => rfl
  · simp only [if_neg q, if_true]
    refine Ev.bind (f := fun k (bt : List (List Int) × List (List Int)) => (if 0 ≤ (n : Int) then (if ((n : Int) : Int).toNat ≤ 35184372088832 then (precedence_Levels.l0 k (List.replicate ((n : Int) : Int).toNat 0) (toI (order E n)) ((toI (order E n)).length : Int) 0 bt.1 bt.2) else (none)) else (none))) (lists_ev h) ?_
    have hg := order_good E n
    refine Ev.congr (fun k => ?_) (lv0 h (order E n) [] (fun _ => 0) (by have := order_len E n; simp; omega) hg.2.1 (by simp))
    rw [if_pos (by omega), if_pos (by omega), Int.toNat_natCast, rep_vI]
    rfl
theorem full (h : Val n E) : (order E n).length < n ∨ ((order E n).length = n ∧ ¬ Cyc E) := by
  have := order_len E n
  by_cases q : (order E n).length < n
  · exact .inl q
  · exact .inr ⟨by omega, (full_iff h.lt).1 (by omega)⟩
theorem lvs_same (h : Val n E) (q : ¬ (order E n).length < n) : lvs n E = (vI n (rls E n), 0) := by
  have hl : (order E n).length = n := by have := order_len E n; omega
  unfold lvs
  rw [if_neg q]
  congr 1
  have hi := lvls_is h.lt (order_good E n) hl
  exact vI_congr fun j hj => (rls_is hi (order_good E n) hl j hj).symm
end
def VL (n : Nat) (f : Nat → List Bool) : List (List Bool) := (List.range n).map f
theorem VL_len (n : Nat) (f : Nat → List Bool) : (VL n f).length = n := by simp [VL]
theorem rd_VL {n i : Nat} (f : Nat → List Bool) (h : i < n) : rd_L4 (VL n f) (i : Int) = f i := by
  simp [rd_L4, VL, List.getD_eq_getElem?_getD, h]
theorem rep_VL (n : Nat) : List.replicate n ([] : List Bool) = VL n (fun _ => []) := by
  unfold VL
  rw [List.map_const', List.length_range]
section
variable {n : Nat} {E : List (Nat × Nat)}
def nb (n : Nat) (E : List (Nat × Nat)) (i a : Nat) : Bool := decide (a ∈ srch E i (n + 2) 0 [])
theorem nb_iff (h : Val n E) {i : Nat} (hi : i < n) (a : Nat) : nb n E i a = true ↔ Need E a i := by
  unfold nb
  rw [decide_eq_true_eq]
  exact srch_spec (E := E) (n := n) (t := i) h.lt (n + 2) 0 [] List.nodup_nil (by simp) (by simp) (by intro j hj; omega) (by omega) a
theorem rx0 (a b : Nat) (ha : a < n) : ∀ (s p : List Nat), (p ++ s).length ≤ 1000 → (∀ x ∈ s, x < n) → ∃ r, Ev (fun k => slices_IndexFunc_int_int_by_precedence_Reduce_1.l0 k (toI (p ++ s)) ((toI (p ++ s)).length : Int) (p.length : Int) (VL n fun i => vB n (nb n E i)) (a : Int) (b : Int)) r ∧ decide (r ≥ 0) = s.any fun i => nb n E i a
  | [], p, hl, hs => ⟨-1, Ev.const1 fun k => by simp only [slices_IndexFunc_int_int_by_precedence_Reduce_1.l0]; rw [if_neg (by rw [toI_len]; simp)], by simp⟩
  | i :: s, p, hl, hs => by
    have hp : p.length ≤ 1000 := by simp at hl; omega
    have hi := hs i (by simp)
    have hst : ∀ k, slices_IndexFunc_int_int_by_precedence_Reduce_1.l0 (k + 1) (toI (p ++ i :: s)) ((toI (p ++ i :: s)).length : Int) (p.length : Int) (VL n fun i => vB n (nb n E i)) (a : Int) (b : Int) = if nb n E i a = true then some (p.length : Int) else slices_IndexFunc_int_int_by_precedence_Reduce_1.l0 k (toI (p ++ i :: s)) ((toI (p ++ i :: s)).length : Int) ((p.length : Int) + 1) (VL n fun i => vB n (nb n E i)) (a : Int) (b : Int) := fun k => by
      simp only [slices_IndexFunc_int_int_by_precedence_Reduce_1.l0]
      rw [if_pos (toI_lt p s i), if_pos (by omega), if_pos (toI_lt p s i), rd_toI, wr (by omega)]
      unfold precedence_Reduce_1.f
      rw [if_pos (by omega), if_pos (by rw [VL_len]; omega), if_pos (by omega), rd_VL _ hi, if_pos (by rw [vB_len]; omega), rdB_vB _ ha]
      rfl
    by_cases q : nb n E i a = true
    · exact ⟨p.length, Ev.const1 fun k => by rw [hst, if_pos q], by simp [q]⟩
    · obtain ⟨r, hr, hd⟩ := rx0 a b ha s (p ++ [i]) (by simpa using hl) (fun x hx => hs x (by simp [hx]))
      rw [len_snoc, ← app_snoc] at hr
      exact ⟨r, Ev.step (fun k => by rw [hst, if_neg q]) hr, by rw [hd]; simp [q]⟩
theorem rx_ev (h : Val n E) (a b : Nat) (ha : a < n) : Ev (fun k => slices_ContainsFunc_int_int_by_precedence_Reduce_1.f k (toI (bf E b)) (VL n fun i => vB n (nb n E i)) (a : Int) (b : Int)) ((bf E b).any fun i => nb n E i a) := by
  have hb := bf_len E b
  have hlen := h.len
  obtain ⟨r, hr, hd⟩ := rx0 (n := n) (E := E) a b ha (bf E b) [] (by simp; omega) (bf_lt h b)
  unfold slices_ContainsFunc_int_int_by_precedence_Reduce_1.f slices_IndexFunc_int_int_by_precedence_Reduce_1.f
  refine Ev.bind (a := r) (f := fun _ t => some (decide (t ≥ 0))) hr (Ev.const fun k => ?_)
  rw [hd]
def kp (n : Nat) (E : List (Nat × Nat)) (e : Nat × Nat) : Bool := !((bf E e.2).any fun i => nb n E i e.1)
def red (n : Nat) (E : List (Nat × Nat)) : List (Nat × Nat) := E.filter (kp n E)
theorem red_go (h : Val n E) : ∀ (s p : List (Nat × Nat)), p ++ s = E → Ev (fun k => precedence_Reduce.l1 k (emb E) ((emb E).length : Int) (p.length : Int) (LI n (bh E)) (LI n (bf E)) (VL n fun i => vB n (nb n E i)) n (emb (p.filter (kp n E)))) ((n : Int), emb (red n E), 0)
  | [], p, he => by
    refine Ev.const1 fun k => ?_
    simp only [precedence_Reduce.l1]
    rw [if_neg (by rw [emb_len, ← he]; simp)]
    rw [List.append_nil] at he
    rw [he]; rfl
  | e :: s, p, he => by
    have hlen := h.len
    have hp : p.length ≤ 1000 := by rw [← he] at hlen; simp at hlen; omega
    obtain ⟨h1, h2⟩ := h.lt e (by rw [← he]; simp)
    have ih := red_go h s (p ++ [e]) (by simpa using he)
    rw [len_snoc] at ih
    have hfl : (p.filter (kp n E)).length ≤ p.length := List.length_filter_le _ _
    have hst : ∀ k, precedence_Reduce.l1 (k + 1) (emb E) ((emb E).length : Int) (p.length : Int) (LI n (bh E)) (LI n (bf E)) (VL n fun i => vB n (nb n E i)) n (emb (p.filter (kp n E))) = (slices_ContainsFunc_int_int_by_precedence_Reduce_1.f k (toI (bf E e.2)) (VL n fun i => vB n (nb n E i)) (e.1 : Int) (e.2 : Int)).bind fun t239 => (if t239 = true then (precedence_Reduce.l1 k (emb E) ((emb E).length : Int) ((p.length : Int) + 1) (LI n (bh E)) (LI n (bf E)) (VL n fun i => vB n (nb n E i)) n (emb (p.filter (kp n E)))) else (precedence_Reduce.l1 k (emb E) ((emb E).length : Int) ((p.length : Int) + 1) (LI n (bh E)) (LI n (bf E)) (VL n fun i => vB n (nb n E i)) n (emb (p.filter (kp n E) ++ [e])))) := fun k => by
      simp only [precedence_Reduce.l1]
      have hlt : (p.length : Int) < ((emb E).length : Int) := by have := emb_lt p s e; rwa [he] at this
      have hrd : rd_T47 (emb E) (p.length : Int) = em e := by have := rdT_emb p s e; rwa [he] at this
      have hl2 : (emb (p.filter (kp n E))).length < 8796093022208 := by rw [emb_len]; omega
      rw [if_pos hlt, if_pos (by omega), if_pos hlt, hrd, em_0, em_1, if_pos (by omega), if_pos (by rw [LI_len]; omega), rdL_LI _ h2, wr (by omega)]
      simp only [if_pos hl2]
      rw [emb_app]
      rfl
    refine Ev.step hst (Ev.bind (f := fun k t239 => (if t239 = true then (precedence_Reduce.l1 k (emb E) ((emb E).length : Int) ((p.length : Int) + 1) (LI n (bh E)) (LI n (bf E)) (VL n fun i => vB n (nb n E i)) n (emb (p.filter (kp n E)))) else (precedence_Reduce.l1 k (emb E) ((emb E).length : Int) ((p.length : Int) + 1) (LI n (bh E)) (LI n (bf E)) (VL n fun i => vB n (nb n E i)) n (emb (p.filter (kp n E) ++ [e]))))) (rx_ev h e.1 e.2 h1) ?_)
    rw [List.filter_append] at ih
    by_cases q : ((bf E e.2).any fun i => nb n E i e.1) = true
    · simp only [q, if_true]
      have : kp n E e = false := by unfold kp; rw [q]; rfl
      simpa [this] using ih
    · simp only [q, Bool.false_eq_true, if_false]
      have : kp n E e = true := by unfold kp; rw [Bool.eq_false_iff.2 q]; rfl
      simpa [this] using ih
theorem all_go (h : Val n E) : ∀ (m i : Nat), i + m = n → Ev (fun k => precedence_Reduce.l0 k n i n (emb E) (LI n (bh E)) (LI n (bf E)) (VL n fun j => if j < i then vB n (nb n E j) else [])) ((n : Int), emb (red n E), 0)
  | 0, i, hi => by
    have hi' : i = n := by omega
    refine Ev.step (fun k => ?_) (red_go h E [] rfl)
    simp only [precedence_Reduce.l0]
    rw [if_neg (by omega)]
    have : (VL n fun j => if j < i then vB n (nb n E j) else []) = VL n fun j => vB n (nb n E j) := by
      unfold VL
      refine List.map_congr_left fun j hj => ?_
      rw [List.mem_range] at hj
      rw [if_pos (by omega)]
    rw [this]; rfl
  | m + 1, i, hi => by
    have hn := h.le
    have hin : i < n := by omega
    have hst : ∀ k, precedence_Reduce.l0 (k + 1) n i n (emb E) (LI n (bh E)) (LI n (bf E)) (VL n fun j => if j < i then vB n (nb n E j) else []) = (precedence_needs.f k (LI n (bh E)) (LI n (bf E)) (i : Int)).bind fun t231 => precedence_Reduce.l0 k n ((i + 1 : Nat) : Int) n (emb E) (LI n (bh E)) (LI n (bf E)) ((VL n fun j => if j < i then vB n (nb n E j) else []).set ((i : Int)).toNat t231) := fun k => by
      simp only [precedence_Reduce.l0]
      rw [if_pos (by omega), wr (by omega)]
      simp only [if_pos (show 0 ≤ (i : Int) by omega), if_pos (show (i : Int) < ((VL n fun j => if j < i then vB n (nb n E j) else []).length : Int) by rw [VL_len]; omega)]
      rfl
    refine Ev.step hst (Ev.bind (f := fun k t231 => precedence_Reduce.l0 k n ((i + 1 : Nat) : Int) n (emb E) (LI n (bh E)) (LI n (bf E)) ((VL n fun j => if j < i then vB n (nb n E j) else []).set ((i : Int)).toNat t231)) (needs_ev h hin) ?_)
    have e : (VL n fun j => if j < i then vB n (nb n E j) else []).set ((i : Int)).toNat (vB n fun x => decide (x ∈ srch E i (n + 2) 0 [])) = VL n fun j => if j < i + 1 then vB n (nb n E j) else [] := by
      rw [Int.toNat_natCast]
      unfold VL
      rw [map_set _ _ hin]
      refine List.map_congr_left fun j _ => ?_
      by_cases q : j = i
      · rw [if_pos q, if_pos (by omega), q]; rfl
      · rw [if_neg q]
        by_cases z : j < i
        · rw [if_pos z, if_pos (by omega)]
        · rw [if_neg z, if_neg (by omega)]
    rw [e]
    exact all_go h m (i + 1) (by omega)
theorem Reduce_ev (h : Val n E) : Ev (fun k => precedence_Reduce.f k n (emb E)) (if (order E n).length < n then (0, [], 13) else ((n : Int), emb (red n E), 0)) := by
  have hn := h.le
  unfold precedence_Reduce.f
  refine Ev.bind (f := fun k (b : List Int × Int) => (if b.2 = 0 then ((precedence_listsOf.f k n (emb E)).bind fun bt => (if 0 ≤ (n : Int) then (if ((n : Int) : Int).toNat ≤ 11728124029610 then ((some (List.replicate ((n : Int) : Int).toNat [] : List (List Bool))).bind fun y227 => (precedence_Reduce.l0 k (y227.length : Int) 0 n (emb E) bt.1 bt.2 y227)) else (none)) else (none))) else (some (0, ([] : List (S47)), b.2)))) (sorted_ev h) ?_
  unfold srt
  by_cases q : (order E n).length < n
  · simp only [if_pos q]
    exact Ev.const fun k => rfl
  · simp only [if_neg q, if_true]
    refine Ev.bind (f := fun k (bt : List (List Int) × List (List Int)) => (if 0 ≤ (n : Int) then (if ((n : Int) : Int).toNat ≤ 11728124029610 then ((some (List.replicate ((n : Int) : Int).toNat [] : List (List Bool))).bind fun y227 => (precedence_Reduce.l0 k (y227.length : Int) 0 n (emb E) bt.1 bt.2 y227)) else (none)) else (none))) (lists_ev h) ?_
    refine Ev.congr (fun k => ?_) (all_go h n 0 (by omega))
    rw [if_pos (by omega), if_pos (by omega), Int.toNat_natCast]
    simp only [Option.bind_some]
    rw [rep_VL, VL_len]
    have : (VL n fun j => if j < 0 then vB n (nb n E j) else []) = VL n fun _ => [] := by
      unfold VL
      refine List.map_congr_left fun j _ => ?_
      rw [if_neg (by omega)]
    rw [this]; rfl
theorem red_Red (h : Val n E) : Red E (red n E) := fun a b => by
  unfold red
  rw [List.mem_filter]
  refine and_congr_right fun hab => ?_
  unfold kp Idle
  rw [Bool.not_eq_true', ← Bool.not_eq_true, not_congr]
  rw [List.any_eq_true]
  constructor
  · rintro ⟨i, hi, hn⟩
    exact ⟨i, mem_bf.1 hi, (nb_iff h (h.lt _ (mem_bf.1 hi)).1 a).1 hn⟩
  · rintro ⟨i, hi, hn⟩
    exact ⟨i, mem_bf.2 hi, (nb_iff h (h.lt _ hi).1 a).2 hn⟩
theorem red_val (h : Val n E) : Val n (red n E) where
  le := h.le
  len := Nat.le_trans (List.length_filter_le _ _) h.len
  lt := fun p hp => h.lt p (List.mem_filter.1 hp).1
  sorted := List.Pairwise.filter _ h.sorted
end
theorem Reduce_bad {m : Int} {l : List S47} (hl : l.length ≤ 1000) (h : chk m l ≠ 0) : Ev (fun k => precedence_Reduce.f k m l) (0, [], chk m l) := by
  unfold precedence_Reduce.f
  refine Ev.bind (f := fun k (b : List Int × Int) => (if b.2 = 0 then ((precedence_listsOf.f k m l).bind fun bt => (if 0 ≤ m then (if (m : Int).toNat ≤ 11728124029610 then ((some (List.replicate (m : Int).toNat [] : List (List Bool))).bind fun y227 => (precedence_Reduce.l0 k (y227.length : Int) 0 m l bt.1 bt.2 y227)) else (none)) else (none))) else (some (0, ([] : List (S47)), b.2)))) (sorted_bad hl h) ?_
  simp only [if_neg h]
  exact Ev.const fun k => rfl
theorem awake60 : lw_awake.f 60 = some true := by decide +kernel
theorem awake_ev : Ev (fun k => lw_awake.f k) true := Ev.of (fun k => lw_awake.mono k) awake60
theorem few_cases (n : Int) (l : List S47) : lw_few.f n l = some false ∨ (lw_few.f n l = some true ∧ l.length ≤ 60 ∧ (n ≤ 12 ∨ n > 256)) := by
  unfold lw_few.f
  by_cases h : n ≤ 12
  · rw [if_pos h]
    by_cases q : (l.length : Int) ≤ 60
    · exact .inr ⟨by simp [q], by omega, .inl h⟩
    · exact .inl (by simp [q])
  · rw [if_neg h]
    by_cases h2 : n > 256
    · rw [if_pos h2]
      by_cases q : (l.length : Int) ≤ 60
      · exact .inr ⟨by simp [q], by omega, .inr h2⟩
      · exact .inl (by simp [q])
    · exact .inl (by rw [if_neg h2])
theorem awk {α : Type} {g : Nat → Bool → Option α} {r : α} (h : Ev (fun k => g k true) r) : Ev (fun k => (lw_awake.f k).bind fun t => g k t) r := Ev.bind (f := fun k t => g k t) awake_ev h
end Go.Proofs.Ytecbmcheojolnaa.XA
