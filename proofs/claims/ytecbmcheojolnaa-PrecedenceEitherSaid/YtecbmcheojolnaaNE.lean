import Derived.Test.YtecbmcheojolnaaXAx0
import Derived.Test.YtecbmcheojolnaaXAx2
import Derived.Test.YtecbmcheojolnaaXAx3
import Derived.Test.YtecbmcheojolnaaXAx4
import Derived.Test.YtecbmcheojolnaaXAx5
import Derived.Test.YtecbmcheojolnaaXAx6
import Derived.Test.YtecbmcheojolnaaXAx24
import Derived.Test.YtecbmcheojolnaaXAx25
import Derived.Test.YtecbmcheojolnaaXAx26
import Derived.Test.YtecbmcheojolnaaXAx27
import Derived.Test.YtecbmcheojolnaaHa
import Derived.Test.YtecbmcheojolnaaXAx14
import Derived.Test.YtecbmcheojolnaaXAx15
import Derived.Test.YtecbmcheojolnaaXAx22
import Derived.Test.YtecbmcheojolnaaXAx13
import Derived.Test.YtecbmcheojolnaaXAx28
import Derived.Test.YtecbmcheojolnaaXAx29
import Derived.Test.YtecbmcheojolnaaXAx30
import Derived.Test.YtecbmcheojolnaaXAx31
import Derived.Test.YtecbmcheojolnaaXAx32
import Derived.Test.YtecbmcheojolnaaXAx10
import Derived.Test.YtecbmcheojolnaaXAx11
import Derived.Test.YtecbmcheojolnaaXAx12
import Derived.Test.YtecbmcheojolnaaXAx37
import Derived.Test.YtecbmcheojolnaaXAx20
import Derived.Test.YtecbmcheojolnaaXAx34
import Derived.Test.YtecbmcheojolnaaXAx40
import Derived.Test.YtecbmcheojolnaaXAx8
import Derived.Test.YtecbmcheojolnaaHc
import Derived.Test.YtecbmcheojolnaaXAx35
import Derived.Test.YtecbmcheojolnaaXAx36
import Derived.Test.YtecbmcheojolnaaXAx16
import Derived.Test.YtecbmcheojolnaaXAx17
import Derived.Test.YtecbmcheojolnaaXAx18
import Derived.Test.YtecbmcheojolnaaXAx19
import Derived.Test.YtecbmcheojolnaaXAx21
import Derived.Test.YtecbmcheojolnaaXAx39
import Derived.Test.YtecbmcheojolnaaXAx23
set_option linter.unusedVariables false
set_option linter.unusedSimpArgs false
namespace Go.Proofs.Ytecbmcheojolnaa.Gr
theorem cover : ∀ (n : Nat) (l : List Nat), l.Nodup → (∀ x ∈ l, x < n) → n ≤ l.length → ∀ a, a < n → a ∈ l
  | 0, l, _, _, _, a, ha => absurd ha (by omega)
  | n + 1, l, hd, hl, hn, a, ha => by
    by_cases hm : n ∈ l
    · by_cases e : a = n
      · rw [e]; exact hm
      · have h := cover n (l.erase n) (hd.erase n) (fun x hx => by
          have h1 := hl x (List.mem_of_mem_erase hx)
          have h2 : x ≠ n := fun q => by rw [q] at hx; exact (hd.not_mem_erase hx)
          omega) (by rw [List.length_erase_of_mem hm]; omega) a (by omega)
        exact List.mem_of_mem_erase h
    · have h := cover n (l.tail) (hd.sublist (List.tail_sublist l)) (fun x hx => by
        have h1 := hl x (List.mem_of_mem_tail hx)
        have h2 : x ≠ n := fun q => by rw [q] at hx; exact hm (List.mem_of_mem_tail hx)
        omega) (by rw [List.length_tail]; omega)
      exfalso
      match l, hn, hd, hl, hm, h with
      | [], hn, _, _, _, _ => simp at hn
      | b :: t, hn, hd, hl, hm, h =>
        have hb := hl b (by simp)
        have hbn : b ≠ n := fun q => hm (by simp [q])
        exact (List.nodup_cons.1 hd).1 (h b (by omega))
theorem few (n : Nat) (l : List Nat) (hd : l.Nodup) (hl : ∀ x ∈ l, x < n) : l.length ≤ n := by
  refine Classical.byContradiction fun h => ?_
  match l, hd, hl, h with
  | [], _, _, h => simp at h
  | b :: t, hd, hl, h =>
    have := cover n t (List.nodup_cons.1 hd).2 (fun x hx => hl x (by simp [hx])) (by simp only [List.length_cons] at h; omega) b (hl b (by simp))
    exact (List.nodup_cons.1 hd).1 this
def ready (E : List (Nat × Nat)) (out : List Nat) (i : Nat) : Bool := E.all fun p => decide (p.2 ≠ i) || decide (p.1 ∈ out)
theorem ready_iff {E : List (Nat × Nat)} {out : List Nat} {i : Nat} : ready E out i = true ↔ ∀ a, (a, i) ∈ E → a ∈ out := by
  simp only [ready, List.all_eq_true, Bool.or_eq_true, decide_eq_true_eq]
  constructor
  · intro h a ha
    rcases h _ ha with q | q
    · exact absurd rfl q
    · exact q
  · rintro h ⟨a, b⟩ hp
    by_cases e : b = i
    · right; rw [e] at hp; exact h a hp
    · left; exact e
def free (E : List (Nat × Nat)) (out : List Nat) (i : Nat) : Bool := !decide (i ∈ out) && ready E out i
def next (E : List (Nat × Nat)) (n : Nat) (out : List Nat) : Option Nat := (List.range n).find? (free E out)
def ord (E : List (Nat × Nat)) (n : Nat) : Nat → List Nat → List Nat
  | 0, out => out
  | k + 1, out => match next E n out with
    | none => out
    | some i => ord E n k (out ++ [i])
theorem next_some {E : List (Nat × Nat)} {n : Nat} {out : List Nat} {i : Nat} (h : next E n out = some i) : i < n ∧ i ∉ out ∧ ∀ a, (a, i) ∈ E → a ∈ out := by
  have h1 := List.find?_some h
  have h2 := List.mem_of_find?_eq_some h
  simp only [free, Bool.and_eq_true, Bool.not_eq_true', decide_eq_false_iff_not] at h1
  exact ⟨List.mem_range.1 h2, h1.1, ready_iff.1 h1.2⟩
theorem next_none {E : List (Nat × Nat)} {n : Nat} {out : List Nat} (h : next E n out = none) {i : Nat} (hi : i < n) (hm : i ∉ out) : ∃ a, (a, i) ∈ E ∧ a ∉ out := by
  have h1 := List.find?_eq_none.1 h i (List.mem_range.2 hi)
  refine Classical.byContradiction fun q => h1 ?_
  simp only [free, Bool.and_eq_true, Bool.not_eq_true', decide_eq_false_iff_not]
  exact ⟨hm, ready_iff.2 fun a ha => Classical.byContradiction fun c => q ⟨a, ha, c⟩⟩
def Good (E : List (Nat × Nat)) (n : Nat) (l : List Nat) : Prop := l.Nodup ∧ (∀ x ∈ l, x < n) ∧ ∀ p b s, l = p ++ b :: s → ∀ a, (a, b) ∈ E → a ∈ p
theorem good_nil (E : List (Nat × Nat)) (n : Nat) : Good E n [] := ⟨List.nodup_nil, by simp, fun p b s h => by simp at h⟩
theorem good_snoc {E : List (Nat × Nat)} {n : Nat} {l : List Nat} (g : Good E n l) {i : Nat} (hi : i < n) (hm : i ∉ l) (hr : ∀ a, (a, i) ∈ E → a ∈ l) : Good E n (l ++ [i]) := by
  obtain ⟨g1, g2, g3⟩ := g
  refine ⟨?_, ?_, ?_⟩
  · rw [List.nodup_append]
    refine ⟨g1, by simp, fun a ha b hb => ?_⟩
    simp only [List.mem_singleton] at hb
    rw [hb]; exact fun q => hm (q ▸ ha)
  · intro x hx
    rcases List.mem_append.1 hx with h | h
    · exact g2 x h
    · simp only [List.mem_singleton] at h; omega
  · intro p b s h a ha
    rcases List.append_eq_append_iff.1 h with ⟨t, h1, h2⟩ | ⟨t, h1, h2⟩
    · cases t with
      | nil =>
        simp only [List.nil_append, List.cons.injEq, List.append_nil] at h1 h2
        rw [h1, ]; rw [← h2.1] at ha; exact hr a ha
      | cons c t =>
        simp only [List.cons_append, List.cons.injEq] at h2
        exact absurd h2.2 (by simp)
    · cases t with
      | nil =>
        simp only [List.nil_append, List.cons.injEq, List.append_nil] at h1 h2
        rw [← h1]; rw [h2.1] at ha; exact hr a ha
      | cons c t =>
        simp only [List.cons_append, List.cons.injEq] at h2
        obtain ⟨rfl, rfl⟩ := h2
        exact g3 p b t h1 a ha
theorem ord_good {E : List (Nat × Nat)} {n : Nat} : ∀ k {out : List Nat}, Good E n out → Good E n (ord E n k out)
  | 0, out, g => g
  | k + 1, out, g => by
    simp only [ord]
    cases h : next E n out with
    | none => exact g
    | some i =>
      obtain ⟨a, b, c⟩ := next_some h
      exact ord_good k (good_snoc g a b c)
theorem ord_stop {E : List (Nat × Nat)} {n : Nat} : ∀ k {out : List Nat}, (ord E n k out).length < out.length + k → next E n (ord E n k out) = none
  | 0, out, h => by simp [ord] at h
  | k + 1, out, h => by
    simp only [ord] at h ⊢
    cases q : next E n out with
    | none => simp only [q]
    | some i =>
      simp only [q] at h ⊢
      exact ord_stop k (by simp only [List.length_append, List.length_cons, List.length_nil]; omega)
def order (E : List (Nat × Nat)) (n : Nat) : List Nat := ord E n n []
theorem order_good (E : List (Nat × Nat)) (n : Nat) : Good E n (order E n) := ord_good n (good_nil E n)
theorem order_len (E : List (Nat × Nat)) (n : Nat) : (order E n).length ≤ n := few n _ (order_good E n).1 (order_good E n).2.1
def Wy (E : List (Nat × Nat)) (S : Nat → Prop) : Nat → Nat → Nat → Prop
  | 0, a, b => (a, b) ∈ E
  | k + 1, a, b => ∃ c, (a, c) ∈ E ∧ S c ∧ Wy E S k c b
theorem wy_mono {E : List (Nat × Nat)} {S T : Nat → Prop} (h : ∀ x, S x → T x) : ∀ k a b, Wy E S k a b → Wy E T k a b
  | 0, _, _, q => q
  | k + 1, _, b, ⟨c, h1, h2, h3⟩ => ⟨c, h1, h c h2, wy_mono h k c b h3⟩
theorem wy_app {E : List (Nat × Nat)} {S : Nat → Prop} {c : Nat} (hc : S c) : ∀ k m a b, Wy E S k a c → Wy E S m c b → Wy E S (k + m + 1) a b
  | 0, m, a, b, h1, h2 => by rw [Nat.zero_add]; exact ⟨c, h1, hc, h2⟩
  | k + 1, m, a, b, ⟨d, h1, h2, h3⟩, h4 => by
    rw [show k + 1 + m + 1 = (k + m + 1) + 1 by omega]
    exact ⟨d, h1, h2, wy_app hc k m d b h3 h4⟩
def Cyc (E : List (Nat × Nat)) : Prop := ∃ k a, Wy E (fun _ => True) k a a
theorem good_lt {E : List (Nat × Nat)} {n : Nat} {l : List Nat} (g : Good E n l) {a b : Nat} (h : (a, b) ∈ E) (hb : b ∈ l) : a ∈ l ∧ l.idxOf a < l.idxOf b := by
  obtain ⟨p, s, rfl⟩ := List.append_of_mem hb
  have ha := g.2.2 p b s rfl a h
  have hbp : b ∉ p := fun q => by
    have := (List.nodup_append.1 g.1).2.2 b q b (by simp)
    exact this rfl
  refine ⟨by simp [ha], ?_⟩
  rw [List.idxOf_append, if_pos ha, List.idxOf_append, if_neg hbp]
  have := List.idxOf_lt_length_of_mem ha
  omega
theorem way_lt {E : List (Nat × Nat)} {n : Nat} {l : List Nat} (g : Good E n l) : ∀ k a b, Wy E (fun _ => True) k a b → b ∈ l → a ∈ l ∧ l.idxOf a < l.idxOf b
  | 0, a, b, h, hb => good_lt g h hb
  | k + 1, a, b, ⟨c, h1, _, h3⟩, hb => by
    obtain ⟨i, j⟩ := way_lt g k c b h3 hb
    obtain ⟨i', j'⟩ := good_lt g h1 i
    exact ⟨i', by omega⟩
theorem no_cyc {E : List (Nat × Nat)} {n : Nat} {l : List Nat} (hE : ∀ p ∈ E, p.1 < n ∧ p.2 < n) (g : Good E n l) (hl : l.length = n) : ¬ Cyc E := fun ⟨k, a, h⟩ => by
  have ha : a < n := by
    cases k with
    | zero => exact (hE _ h).1
    | succ k => obtain ⟨c, h1, _⟩ := h; exact (hE _ h1).1
  have := (way_lt g k a a h (cover n l g.1 g.2.1 (by omega) a ha)).2
  omega
theorem chain {E : List (Nat × Nat)} {R : Nat → Prop} (hR : ∀ i, R i → ∃ a, (a, i) ∈ E ∧ R a) : ∀ (m : Nat) (i : Nat), R i → ∃ l : List Nat, l.length = m + 1 ∧ (∀ x ∈ l, R x) ∧ (∃ t, l = t ++ [i]) ∧ ∀ p b s, l = p ++ b :: s → ∀ c r, s = c :: r → (b, c) ∈ E
  | 0, i, hi => ⟨[i], rfl, by simpa using hi, ⟨[], rfl⟩, fun p b s h c r hs => by
    subst hs
    have := congrArg List.length h
    simp only [List.length_append, List.length_cons, List.length_nil] at this
    omega⟩
  | m + 1, i, hi => by
    obtain ⟨l, h1, h2, ⟨t, ht⟩, h4⟩ := chain hR m i hi
    match l, h1 with
    | b :: q, h1 =>
      obtain ⟨a, ha, hRa⟩ := hR b (h2 b (by simp))
      refine ⟨a :: b :: q, by simp only [List.length_cons] at h1 ⊢; omega, fun x hx => ?_, ⟨a :: t, by rw [ht]; rfl⟩, fun p y s h c r hs => ?_⟩
      · rcases List.mem_cons.1 hx with e | e
        · rw [e]; exact hRa
        · exact h2 x e
      · cases p with
        | nil =>
          simp only [List.nil_append, List.cons.injEq] at h
          obtain ⟨rfl, h⟩ := h
          rw [hs] at h
          simp only [List.cons.injEq] at h
          rw [← h.1]; exact ha
        | cons z p =>
          simp only [List.cons_append, List.cons.injEq] at h
          exact h4 p y s h.2 c r hs
theorem along {E : List (Nat × Nat)} : ∀ (s : List Nat) (p : List Nat) (b c : Nat) (r : List Nat) (l : List Nat), (∀ p b s, l = p ++ b :: s → ∀ c r, s = c :: r → (b, c) ∈ E) → l = p ++ b :: (s ++ c :: r) → Wy E (fun _ => True) s.length b c
  | [], p, b, c, r, l, h, e => h p b _ e c r rfl
  | d :: s, p, b, c, r, l, h, e => ⟨d, h p b _ e d _ rfl, trivial, along s (p ++ [b]) d c r l h (by rw [e]; simp)⟩
theorem not_nodup : ∀ {l : List Nat}, ¬ l.Nodup → ∃ p b s r, l = p ++ b :: (s ++ b :: r)
  | [], h => absurd List.nodup_nil h
  | a :: l, h => by
    by_cases ha : a ∈ l
    · obtain ⟨s, r, e⟩ := List.append_of_mem ha
      exact ⟨[], a, s, r, by rw [e]; rfl⟩
    · have : ¬ l.Nodup := fun q => h (List.nodup_cons.2 ⟨ha, q⟩)
      obtain ⟨p, b, s, r, e⟩ := not_nodup this
      exact ⟨a :: p, b, s, r, by rw [e]; rfl⟩
theorem has_cyc {E : List (Nat × Nat)} {n : Nat} (hE : ∀ p ∈ E, p.1 < n ∧ p.2 < n) (h : (order E n).length < n) : Cyc E := by
  have hn : next E n (order E n) = none := ord_stop n (by simpa [order] using h)
  have hR : ∀ i, (i < n ∧ i ∉ order E n) → ∃ a, (a, i) ∈ E ∧ (a < n ∧ a ∉ order E n) := fun i ⟨h1, h2⟩ => by
    obtain ⟨a, h3, h4⟩ := next_none hn h1 h2
    exact ⟨a, h3, (hE _ h3).1, h4⟩
  obtain ⟨i, hi, hm⟩ : ∃ i, i < n ∧ i ∉ order E n := by
    refine Classical.byContradiction fun q => ?_
    have all : ∀ i, i < n → i ∈ order E n := fun i hi => Classical.byContradiction fun c => q ⟨i, hi, c⟩
    have hs : (List.range n).length ≤ (order E n).length := by
      have : ∀ (l m : List Nat), l.Nodup → (∀ x ∈ l, x ∈ m) → l.length ≤ m.length := by
        intro l
        induction l with
        | nil => intro m _ _; simp
        | cons a l ih =>
          intro m hd hs
          have hm := hs a (by simp)
          have := ih (m.erase a) (List.nodup_cons.1 hd).2 (fun x hx => by
            have hx2 := hs x (by simp [hx])
            have hne : x ≠ a := fun e => (List.nodup_cons.1 hd).1 (e ▸ hx)
            exact (List.mem_erase_of_ne hne).2 hx2)
          have hp := List.length_pos_of_mem hm
          rw [List.length_erase_of_mem hm] at this
          simp only [List.length_cons]; omega
      exact this _ _ List.nodup_range (fun x hx => all x (List.mem_range.1 hx))
    rw [List.length_range] at hs; omega
  obtain ⟨l, l1, l2, _, l4⟩ := chain hR n i ⟨hi, hm⟩
  have : ¬ l.Nodup := fun q => by have := few n l q (fun x hx => (l2 x hx).1); omega
  obtain ⟨p, b, s, r, e⟩ := not_nodup this
  exact ⟨s.length, b, along s p b b r l l4 e⟩
theorem full_iff {E : List (Nat × Nat)} {n : Nat} (hE : ∀ p ∈ E, p.1 < n ∧ p.2 < n) : (order E n).length = n ↔ ¬ Cyc E := by
  constructor
  · exact no_cyc hE (order_good E n)
  · intro h
    have := order_len E n
    refine Classical.byContradiction fun q => h (has_cyc hE (by omega))
def Sh (E : List (Nat × Nat)) (S : Nat → Prop) (j a b : Nat) : Prop := Wy E S j a b ∧ ∀ i, i < j → ¬ Wy E S i a b
def Least (E : List (Nat × Nat)) (g m : Nat) : Prop := Wy E (fun _ => True) g m m ∧ (∀ i a, i < g → ¬ Wy E (fun _ => True) i a a) ∧ ∀ a, a < m → ¬ Wy E (fun _ => True) g a a
theorem wy_snoc {E : List (Nat × Nat)} {k a b c : Nat} (h : Wy E (fun _ => True) k a b) (hc : (b, c) ∈ E) : Wy E (fun _ => True) (k + 1) a c := by
  have := wy_app (S := fun _ => True) (c := b) trivial k 0 a c h hc
  simpa using this
theorem on_gt {E : List (Nat × Nat)} {g m : Nat} (h : Least E g m) {i j c : Nat} (h1 : Wy E (fun _ => True) i m c) (h2 : Wy E (fun _ => True) j c m) (e : i + j + 1 = g) : m < c := by
  have r := wy_app (S := fun _ => True) (c := m) trivial j i c c h2 h1
  rw [show j + i + 1 = g by omega] at r
  have : ¬ c < m := fun q => h.2.2 c q r
  have : c ≠ m := fun q => by rw [q] at h1; exact h.2.1 i m (by omega) h1
  omega
theorem restrict {E : List (Nat × Nat)} {g m : Nat} (h : Least E g m) : ∀ j i c, Wy E (fun _ => True) i m c → Wy E (fun _ => True) j c m → i + j + 1 = g → Wy E (fun x => m < x) j c m
  | 0, i, c, h1, h2, e => h2
  | j + 1, i, c, h1, ⟨d, h2, _, h3⟩, e => by
    have h4 := wy_snoc h1 h2
    exact ⟨d, h2, on_gt h h4 h3 (by omega), restrict h j (i + 1) d h4 h3 (by omega)⟩
theorem same_choice {E : List (Nat × Nat)} {g m : Nat} (h : Least E g m) {i j k : Nat} (h1 : Wy E (fun _ => True) i m k) (e : i + j + 1 = g) : (k ≠ m ∧ Sh E (fun _ => True) j k m) ↔ (m < k ∧ Sh E (fun x => m < x) j k m) := by
  constructor
  · rintro ⟨h2, h3, h4⟩
    exact ⟨on_gt h h1 h3 e, restrict h j i k h1 h3 e, fun p hp q => h4 p hp (wy_mono (fun _ _ => trivial) _ _ _ q)⟩
  · rintro ⟨h2, h3, h4⟩
    refine ⟨by omega, wy_mono (fun _ _ => trivial) _ _ _ h3, fun p hp q => ?_⟩
    have r := wy_app (S := fun _ => True) (c := k) trivial i p m m h1 q
    exact h.2.1 _ m (by omega) r
theorem least_restr {E : List (Nat × Nat)} {g m : Nat} (h : Least E g m) : Sh E (fun x => m < x) g m m := by
  refine ⟨?_, fun i hi q => h.2.1 i m hi (wy_mono (fun _ _ => trivial) _ _ _ q)⟩
  cases g with
  | zero => exact h.1
  | succ g =>
    obtain ⟨d, h1, _, h2⟩ := h.1
    exact ⟨d, h1, on_gt h (i := 0) h1 h2 (by omega), restrict h g 0 d h1 h2 (by omega)⟩
theorem sh_ne {E : List (Nat × Nat)} {b : Nat} : ∀ j a, (Sh E (fun _ => True) j a b ↔ Sh E (fun x => x ≠ b) j a b) := by
  have key : ∀ j a, Wy E (fun _ => True) j a b → (∀ i, i < j → ¬ Wy E (fun _ => True) i a b) → Wy E (fun x => x ≠ b) j a b := by
    intro j
    induction j with
    | zero => intro a h _; exact h
    | succ j ih =>
      rintro a ⟨c, h1, _, h2⟩ hs
      refine ⟨c, h1, fun q => hs 0 (by omega) (q ▸ h1), ih c h2 fun i hi q => hs (i + 1) (by omega) ⟨c, h1, trivial, q⟩⟩
  have ex : ∀ j a, Wy E (fun _ => True) j a b → ∃ i, i ≤ j ∧ Sh E (fun _ => True) i a b := by
    intro j
    induction j using Nat.strongRecOn with
    | ind j ih =>
      intro a h
      by_cases q : ∃ i, i < j ∧ Wy E (fun _ => True) i a b
      · obtain ⟨i, hi, hw⟩ := q
        obtain ⟨i', h1, h2⟩ := ih i hi a hw
        exact ⟨i', by omega, h2⟩
      · exact ⟨j, Nat.le_refl _, h, fun i hi hw => q ⟨i, hi, hw⟩⟩
  intro j a
  constructor
  · rintro ⟨h1, h2⟩
    exact ⟨key j a h1 h2, fun i hi q => h2 i hi (wy_mono (fun _ _ => trivial) _ _ _ q)⟩
  · rintro ⟨h1, h2⟩
    refine ⟨wy_mono (fun _ _ => trivial) _ _ _ h1, fun i hi q => ?_⟩
    obtain ⟨i', h3, h4⟩ := ex i a q
    exact h2 i' (by omega) (key i' a h4.1 h4.2)
theorem is_iff {E : List (Nat × Nat)} {n : Nat} {l : List Nat} (hE : ∀ p ∈ E, p.1 < n ∧ p.2 < n) (hd : l.Nodup) (hl : ∀ x ∈ l, x < n) (hn : l.length = n) : Good E n l ↔ ∀ a b, (a, b) ∈ E → l.idxOf a < l.idxOf b := by
  constructor
  · intro g a b h
    exact (good_lt g h (cover n l hd hl (by omega) b (hE _ h).2)).2
  · intro h
    refine ⟨hd, hl, fun p b s e a ha => ?_⟩
    have h2 := h a b ha
    have hbp : b ∉ p := fun q => by
      rw [e] at hd
      exact (List.nodup_append.1 hd).2.2 b q b (by simp) rfl
    refine Classical.byContradiction fun c => ?_
    rw [e, List.idxOf_append, if_neg c, List.idxOf_append, if_neg hbp] at h2
    simp only [List.idxOf_cons_self] at h2
    omega
def bh (E : List (Nat × Nat)) (i : Nat) : List Nat := (E.filter fun p => decide (p.1 = i)).map (·.2)
def bf (E : List (Nat × Nat)) (i : Nat) : List Nat := (E.filter fun p => decide (p.2 = i)).map (·.1)
theorem mem_bh {E : List (Nat × Nat)} {a b : Nat} : b ∈ bh E a ↔ (a, b) ∈ E := by
  simp only [bh, List.mem_map, List.mem_filter, decide_eq_true_eq]
  constructor
  · rintro ⟨⟨x, y⟩, ⟨h1, h2⟩, h3⟩; simp only at h2 h3; rw [← h2, ← h3]; exact h1
  · intro h; exact ⟨(a, b), ⟨h, rfl⟩, rfl⟩
theorem mem_bf {E : List (Nat × Nat)} {a b : Nat} : a ∈ bf E b ↔ (a, b) ∈ E := by
  simp only [bf, List.mem_map, List.mem_filter, decide_eq_true_eq]
  constructor
  · rintro ⟨⟨x, y⟩, ⟨h1, h2⟩, h3⟩; simp only at h2 h3; rw [← h2, ← h3]; exact h1
  · intro h; exact ⟨(a, b), ⟨h, rfl⟩, rfl⟩
def wt (E : List (Nat × Nat)) (out : List Nat) (i : Nat) : Nat := (E.filter fun p => decide (p.2 = i) && !decide (p.1 ∈ out)).length
theorem wt_nil (E : List (Nat × Nat)) (i : Nat) : wt E [] i = (bf E i).length := by
  simp only [wt, bf, List.length_map]
  congr 1
  refine List.filter_congr fun p _ => by simp
theorem wt_zero {E : List (Nat × Nat)} {out : List Nat} {i : Nat} : wt E out i = 0 ↔ ready E out i = true := by
  rw [ready_iff, wt, List.length_eq_zero_iff, List.filter_eq_nil_iff]
  constructor
  · intro h a ha
    have := h _ ha
    simpa using this
  · rintro h ⟨a, b⟩ hp
    simp only [Bool.and_eq_true, decide_eq_true_eq, Bool.not_eq_true', decide_eq_false_iff_not, not_and, Classical.not_not]
    intro e; rw [e] at hp; exact h a hp
theorem wt_snoc {out : List Nat} {i : Nat} (h : i ∉ out) (k : Nat) : ∀ E : List (Nat × Nat), wt E out k = wt E (out ++ [i]) k + (bh E i).count k
  | [] => rfl
  | (a, b) :: E => by
    have ih := wt_snoc h k E
    simp only [wt, bh, List.filter_cons, List.mem_append, List.mem_singleton] at ih ⊢
    by_cases q1 : b = k <;> by_cases q2 : a = i <;> by_cases q3 : a ∈ out <;> simp_all <;> omega
def upd (aw : Nat → Nat) (i v : Nat) : Nat → Nat := fun j => if j = i then v else aw j
def vis (f D : Nat) : List Nat → (Nat → Nat) → List Nat → (Nat → Nat) × List Nat
  | [], aw, r => (aw, r)
  | i :: L, aw, r => if i < f ∨ 0 < aw i then vis f D L aw r else vis f D L (upd aw i (D + 1)) (if i = f then r else r ++ [i])
def Fnd (f : Nat) (aw : Nat → Nat) (r : List Nat) : Prop := r.Nodup ∧ (∀ x, x ∈ r ↔ f < x ∧ 0 < aw x) ∧ ∀ x, x < f → aw x = 0
theorem vis_spec (f D : Nat) : ∀ (L : List Nat) (aw : Nat → Nat) (r : List Nat), Fnd f aw r → ∃ t, (vis f D L aw r).2 = r ++ t ∧ Fnd f (vis f D L aw r).1 (r ++ t) ∧
    (∀ x, (vis f D L aw r).1 x = aw x ∨ (aw x = 0 ∧ (vis f D L aw r).1 x = D + 1 ∧ x ∈ L ∧ f ≤ x)) ∧ (∀ x ∈ L, f ≤ x → 0 < (vis f D L aw r).1 x)
  | [], aw, r, h => ⟨[], by simp [vis], by simpa [vis] using h, fun x => .inl rfl, fun x hx => absurd hx (by simp)⟩
  | i :: L, aw, r, h => by
    by_cases q : i < f ∨ 0 < aw i
    · simp only [vis, if_pos q]
      obtain ⟨t, h1, h2, h3, h4⟩ := vis_spec f D L aw r h
      refine ⟨t, h1, h2, fun x => ?_, fun x hx hf => ?_⟩
      · rcases h3 x with e | ⟨a, b, c, d⟩
        · exact .inl e
        · exact .inr ⟨a, b, by simp [c], d⟩
      · rcases List.mem_cons.1 hx with e | e
        · subst e
          rcases h3 x with e | ⟨a, b, c, d⟩
          · omega
          · omega
        · exact h4 x e hf
    · simp only [vis, if_neg q]
      have h' : Fnd f (upd aw i (D + 1)) (if i = f then r else r ++ [i]) := by
        obtain ⟨a, b, c⟩ := h
        by_cases e : i = f
        · rw [if_pos e]
          refine ⟨a, fun x => ?_, fun x hx => ?_⟩
          · rw [b x]; unfold upd; split <;> omega
          · unfold upd; rw [if_neg (by omega)]; exact c x hx
        · rw [if_neg e]
          refine ⟨?_, fun x => ?_, fun x hx => ?_⟩
          · rw [List.nodup_append]
            refine ⟨a, by simp, fun y hy z hz => ?_⟩
            simp only [List.mem_singleton] at hz
            have := (b y).1 hy
            intro e2; rw [hz] at e2; rw [e2] at this; omega
          · rw [List.mem_append, List.mem_singleton, b x]; unfold upd; split <;> omega
          · unfold upd; rw [if_neg (by omega)]; exact c x hx
      obtain ⟨t, h1, h2, h3, h4⟩ := vis_spec f D L _ _ h'
      refine ⟨if i = f then t else i :: t, ?_, ?_, fun x => ?_, fun x hx hf => ?_⟩
      · rw [h1]; split <;> simp
      · have : (if i = f then r else r ++ [i]) ++ t = r ++ (if i = f then t else i :: t) := by split <;> simp
        rw [← this]; exact h2
      · rcases h3 x with e | ⟨a, b, c, d⟩
        · rw [e]
          by_cases e2 : x = i
          · subst e2
            right
            exact ⟨by omega, by simp [upd], by simp, by omega⟩
          · left; simp [upd, e2]
        · have : x ≠ i := fun e2 => by rw [e2] at a; simp [upd] at a
          right
          exact ⟨by simpa [upd, this] using a, b, by simp [c], d⟩
      · rcases List.mem_cons.1 hx with e | e
        · subst e
          rcases h3 x with e | ⟨a, b, c, d⟩
          · rw [e]; simp [upd]
          · omega
        · exact h4 x e hf
def dq (f : Nat) (aw : Nat → Nat) (x : Nat) : Nat := if x = f then 0 else aw x
def bfs (E : List (Nat × Nat)) (f : Nat) : Nat → Nat → (Nat → Nat) → List Nat → (Nat → Nat)
  | 0, _, aw, _ => aw
  | k + 1, p, aw, r => match (f :: r)[p]? with
    | none => aw
    | some x => bfs E f k (p + 1) (vis f (dq f aw x) (bf E x) aw r).1 (vis f (dq f aw x) (bf E x) aw r).2
structure Bv (E : List (Nat × Nat)) (f p : Nat) (aw : Nat → Nat) (r : List Nat) : Prop where
  fnd : Fnd f aw r
  sound : ∀ i j, aw i = j + 1 → Wy E (fun x => f < x) j i f
  sorted : ∀ u v x y : Nat, u ≤ v → (f :: r)[u]? = some x → (f :: r)[v]? = some y → dq f aw x ≤ dq f aw y
  near : ∀ x : Nat, (f :: r)[p]? = some x → (∀ y ∈ r, aw y ≤ dq f aw x + 1) ∧ aw f ≤ dq f aw x + 1
  doneq : ∀ u x : Nat, u < p → (f :: r)[u]? = some x → ∀ i, (i, x) ∈ E → f ≤ i → 0 < aw i ∧ aw i ≤ dq f aw x + 1
theorem inv_step {E : List (Nat × Nat)} {f p : Nat} {aw : Nat → Nat} {r : List Nat} (h : Bv E f p aw r) {x : Nat} (hx : (f :: r)[p]? = some x) :
    Bv E f (p + 1) (vis f (dq f aw x) (bf E x) aw r).1 (vis f (dq f aw x) (bf E x) aw r).2 := by
  obtain ⟨t, h1, h2, h3, h4⟩ := vis_spec f (dq f aw x) (bf E x) aw r h.fnd
  have hp : p < (f :: r).length := by
    refine Classical.byContradiction fun c => ?_
    rw [List.getElem?_eq_none (by omega)] at hx; exact absurd hx (by simp)
  rw [h1]
  generalize hA : (vis f (dq f aw x) (bf E x) aw r).1 = A at h2 h3 h4 ⊢
  have keep : ∀ y, y = f ∨ y ∈ r → dq f A y = dq f aw y := fun y hy => by
    unfold dq
    split
    · rfl
    · rcases hy with e | e
      · contradiction
      · have := ((h.fnd.2.1 y).1 e).2
        rcases h3 y with e | ⟨a, _⟩
        · exact e
        · omega
  have new : ∀ y ∈ t, dq f A y = dq f aw x + 1 ∧ A y = dq f aw x + 1 := fun y hy => by
    have hm := (h2.2.1 y).1 (List.mem_append_right r hy)
    have hr : y ∉ r := fun q => (List.nodup_append.1 h2.1).2.2 y q y hy rfl
    have h0 : ¬ (f < y ∧ 0 < aw y) := fun q => hr ((h.fnd.2.1 y).2 q)
    have e : A y = dq f aw x + 1 := by
      rcases h3 y with e | ⟨a, b, _⟩
      · omega
      · exact b
    refine ⟨?_, e⟩
    unfold dq; rw [if_neg (by omega)]; exact e
  have old : ∀ u y, (f :: (r ++ t))[u]? = some y → (u < (f :: r).length ∧ (f :: r)[u]? = some y ∧ (y = f ∨ y ∈ r)) ∨ ((f :: r).length ≤ u ∧ y ∈ t) := fun u y hu => by
    rw [← List.cons_append] at hu
    by_cases c : u < (f :: r).length
    · rw [List.getElem?_append_left c] at hu
      exact .inl ⟨c, hu, by have := List.mem_of_getElem? hu; simpa using this⟩
    · rw [List.getElem?_append_right (by omega)] at hu
      exact .inr ⟨by omega, List.mem_of_getElem? hu⟩
  have nx := h.near x hx
  have top : ∀ y, y = f ∨ y ∈ r → dq f aw y ≤ dq f aw x + 1 := fun y hy => by
    rcases hy with rfl | hy
    · simp [dq]
    · have := nx.1 y hy
      unfold dq at this ⊢
      split
      · omega
      · exact this
  have kx : dq f A x = dq f aw x := keep x (by have := List.mem_of_getElem? hx; simpa using this)
  refine ⟨h2, fun i j e => ?_, fun u v y z huv hy hz => ?_, fun y hy => ?_, fun u y hu hy i hi hf => ?_⟩
  · rcases h3 i with q | ⟨a, b, c, d⟩
    · exact h.sound i j (by omega)
    · have hE := mem_bf.1 c
      by_cases ex : x = f
      · have : j = 0 := by
          have : dq f aw x = 0 := by simp [dq, ex]
          omega
        subst this; rw [← ex]; exact hE
      · have hd : dq f aw x = aw x := by simp [dq, ex]
        have hxr : x ∈ r := by have := List.mem_of_getElem? hx; simpa [ex] using this
        have hx2 := (h.fnd.2.1 x).1 hxr
        obtain ⟨m, hm⟩ : ∃ m, aw x = m + 1 := ⟨aw x - 1, by omega⟩
        have : j = m + 1 := by omega
        subst this
        exact ⟨x, hE, hx2.1, h.sound x m hm⟩
  · rcases old u y hy with ⟨a, b, c⟩ | ⟨a, b⟩
    · rcases old v z hz with ⟨a', b', c'⟩ | ⟨a', b'⟩
      · rw [keep y c, keep z c']; exact h.sorted u v y z huv b b'
      · rw [keep y c, (new z b').1]; exact top y c
    · rcases old v z hz with ⟨a', b', c'⟩ | ⟨a', b'⟩
      · omega
      · rw [(new y b).1, (new z b').1]; exact Nat.le_refl _
  · have ge : dq f aw x ≤ dq f A y := by
      rcases old (p + 1) y hy with ⟨a, b, c⟩ | ⟨a, b⟩
      · rw [keep y c]; exact h.sorted p (p + 1) x y (by omega) hx b
      · rw [(new y b).1]; omega
    refine ⟨fun z hz => ?_, ?_⟩
    · rcases List.mem_append.1 hz with q | q
      · have := nx.1 z q
        rcases h3 z with e | ⟨a, b, _⟩
        · omega
        · omega
      · have := (new z q).2; omega
    · rcases h3 f with e | ⟨a, b, _⟩
      · have := nx.2; omega
      · omega
  · rcases old u y hy with ⟨a, b, c⟩ | ⟨a, b⟩
    · rw [keep y c]
      by_cases eu : u = p
      · subst eu
        rw [hx] at b
        simp only [Option.some.injEq] at b
        subst b
        refine ⟨h4 i (mem_bf.2 hi) hf, ?_⟩
        rcases h3 i with e | ⟨_, e, _⟩
        · rw [e]
          by_cases ei : i = f
          · rw [ei]; exact nx.2
          · have : 0 < aw i := by have := h4 i (mem_bf.2 hi) hf; omega
            exact nx.1 i ((h.fnd.2.1 i).2 ⟨by omega, this⟩)
        · omega
      · have := h.doneq u y (by omega) b i hi hf
        rcases h3 i with e | ⟨e, _⟩
        · omega
        · omega
    · omega
theorem inv_end {E : List (Nat × Nat)} {f p : Nat} {aw : Nat → Nat} {r : List Nat} (h : Bv E f p aw r) (hp : r.length < p) : ∀ i j, f ≤ i → (aw i = j + 1 ↔ Sh E (fun x => f < x) j i f) := by
  have le : ∀ j i, f ≤ i → Wy E (fun x => f < x) j i f → 0 < aw i ∧ aw i ≤ j + 1 := by
    intro j
    induction j with
    | zero => intro i hi w; have := h.doneq 0 f (by omega) rfl i w hi; simpa [dq] using this
    | succ j ih =>
      rintro i hi ⟨c, w1, w2, w3⟩
      obtain ⟨c1, c2⟩ := ih c (Nat.le_of_lt w2) w3
      have hc := (h.fnd.2.1 c).2 ⟨w2, c1⟩
      obtain ⟨u, hu, e⟩ := List.mem_iff_getElem.1 hc
      have := h.doneq (u + 1) c (by omega) (by rw [List.getElem?_cons_succ, List.getElem?_eq_getElem hu, e]) i w1 hi
      have hd : dq f aw c = aw c := by unfold dq; rw [if_neg (by omega)]
      omega
  intro i j hi
  constructor
  · intro e
    exact ⟨h.sound i j e, fun m hm w => by have := le m i hi w; omega⟩
  · rintro ⟨w, s⟩
    obtain ⟨a, b⟩ := le j i hi w
    obtain ⟨m, hm⟩ : ∃ m, aw i = m + 1 := ⟨aw i - 1, by omega⟩
    have := h.sound i m hm
    have : ¬ m < j := fun q => s m q this
    omega
theorem inv_init (E : List (Nat × Nat)) (f : Nat) : Bv E f 0 (fun _ => 0) [] :=
  ⟨⟨List.nodup_nil, by simp, by simp⟩, fun i j e => absurd e (by simp), fun u v x y _ hu hv => by
    cases u with
    | zero => simp only [List.getElem?_cons_zero, Option.some.injEq] at hu; simp [dq, ← hu]
    | succ u => simp at hu, fun x _ => by simp, fun u x hu => by omega⟩
theorem bfs_spec {E : List (Nat × Nat)} {n f : Nat} (hE : ∀ p ∈ E, p.1 < n ∧ p.2 < n) : ∀ (k p : Nat) (aw : Nat → Nat) (r : List Nat), Bv E f p aw r → n + 2 ≤ k + p → ∀ i j, f ≤ i → (bfs E f k p aw r i = j + 1 ↔ Sh E (fun x => f < x) j i f) := by
  have lim : ∀ {p : Nat} {aw : Nat → Nat} {r : List Nat}, Bv E f p aw r → r.length ≤ n := fun {p aw r} h => few n r h.fnd.1 fun x hx => by
    have h2 := (h.fnd.2.1 x).1 hx
    obtain ⟨m, hm⟩ : ∃ m, aw x = m + 1 := ⟨aw x - 1, by omega⟩
    have := h.sound x m hm
    cases m with
    | zero => exact (hE _ this).1
    | succ m => obtain ⟨c, h3, _⟩ := this; exact (hE _ h3).1
  intro k
  induction k with
  | zero => intro p aw r h hk; exact inv_end h (by have := lim h; omega)
  | succ k ih =>
    intro p aw r h hk
    simp only [bfs]
    cases q : (f :: r)[p]? with
    | none =>
      simp only
      rw [List.getElem?_eq_none_iff, List.length_cons] at q
      exact inv_end h (by omega)
    | some x => exact ih (p + 1) _ _ (inv_step h q) (by omega)
theorem sh_step {E : List (Nat × Nat)} {S : Nat → Prop} {j a b : Nat} (h : Sh E S (j + 1) a b) : ∃ c, (a, c) ∈ E ∧ S c ∧ Sh E S j c b := by
  obtain ⟨⟨c, h1, h2, h3⟩, h4⟩ := h
  exact ⟨c, h1, h2, h3, fun i hi w => h4 (i + 1) (by omega) ⟨c, h1, h2, w⟩⟩
theorem sh_inj {E : List (Nat × Nat)} {S : Nat → Prop} {i j a b : Nat} (h : Sh E S i a b) (k : Sh E S j a b) : i = j := by
  have p : ¬ i < j := fun q => k.2 i q h.1
  have q : ¬ j < i := fun q => h.2 j q k.1
  omega
theorem sh_len {E : List (Nat × Nat)} {n : Nat} {S : Nat → Prop} (hE : ∀ p ∈ E, p.1 < n ∧ p.2 < n) {b : Nat} : ∀ j a, Sh E S j a b → j < n := by
  have key : ∀ j a, Sh E S j a b → ∃ l : List Nat, l.length = j + 1 ∧ l.Nodup ∧ ∀ x ∈ l, x < n ∧ ∃ i, i ≤ j ∧ Sh E S i x b := by
    intro j
    induction j with
    | zero => intro a h; exact ⟨[a], rfl, by simp, fun x hx => by simp only [List.mem_singleton] at hx; rw [hx]; exact ⟨(hE _ h.1).1, 0, by omega, h⟩⟩
    | succ j ih =>
      intro a h
      obtain ⟨c, h1, _, h3⟩ := sh_step h
      obtain ⟨l, l1, l2, l3⟩ := ih c h3
      refine ⟨a :: l, by simp [l1], List.nodup_cons.2 ⟨fun q => ?_, l2⟩, fun x hx => ?_⟩
      · obtain ⟨_, i, hi, hs⟩ := l3 a q
        have := sh_inj hs h; omega
      · rcases List.mem_cons.1 hx with e | e
        · rw [e]; exact ⟨(hE _ h1).1, j + 1, by omega, h⟩
        · obtain ⟨u, i, hi, hs⟩ := l3 x e
          exact ⟨u, i, by omega, hs⟩
  intro j a h
  obtain ⟨l, l1, l2, l3⟩ := key j a h
  have := few n l l2 fun x hx => (l3 x hx).1
  omega
theorem sh_ex {E : List (Nat × Nat)} {S : Nat → Prop} {a b : Nat} : ∀ j, Wy E S j a b → ∃ i, i ≤ j ∧ Sh E S i a b := by
  intro j
  induction j using Nat.strongRecOn with
  | ind j ih =>
    intro h
    by_cases q : ∃ i, i < j ∧ Wy E S i a b
    · obtain ⟨i, hi, hw⟩ := q
      obtain ⟨i', h1, h2⟩ := ih i hi hw
      exact ⟨i', by omega, h2⟩
    · exact ⟨j, Nat.le_refl _, h, fun i hi hw => q ⟨i, hi, hw⟩⟩
def rcond (tg len : Nat) (st : Nat → Nat) (b : Nat) : Prop := (len = 1 ∧ b = tg) ∨ (1 < len ∧ b ≠ tg ∧ st b + 1 = len)
instance (tg len : Nat) (st : Nat → Nat) (b : Nat) : Decidable (rcond tg len st b) := inferInstanceAs (Decidable (_ ∨ _))
def rnd (tg len : Nat) : List (Nat × Nat) → (Nat → Nat) → (Nat → Nat)
  | [], st => st
  | (a, b) :: L, st => rnd tg len L (if st a = 0 ∧ rcond tg len st b then upd st a len else st)
theorem rcond_upd {tg len : Nat} (hl : 0 < len) {st : Nat → Nat} {a : Nat} (ha : st a = 0) (b : Nat) : rcond tg len (upd st a len) b ↔ rcond tg len st b ∨ False := by
  unfold rcond upd
  by_cases e : b = a
  · subst e; simp only [if_true, ha]
    constructor
    · rintro (h | h)
      · exact .inl (.inl h)
      · omega
    · rintro ((h | h) | h)
      · exact .inl h
      · omega
      · exact h.elim
  · simp only [if_neg e, or_false]
open Classical in
theorem rnd_spec {tg len : Nat} (hl : 0 < len) : ∀ (L : List (Nat × Nat)) (st : Nat → Nat) (x : Nat), rnd tg len L st x = if st x = 0 ∧ ∃ b, (x, b) ∈ L ∧ rcond tg len st b then len else st x
  | [], st, x => by simp [rnd]
  | (a, b) :: L, st, x => by
    simp only [rnd]
    rw [rnd_spec hl L]
    by_cases q : st a = 0 ∧ rcond tg len st b
    · rw [if_pos q]
      have e : ∀ c, rcond tg len (upd st a len) c ↔ rcond tg len st c := fun c => by rw [rcond_upd hl q.1]; simp
      simp only [e]
      by_cases hx : x = a
      · subst hx
        rw [if_neg (by simp [upd]; omega), if_pos ⟨q.1, b, by simp, q.2⟩]; simp [upd]
      · simp only [upd, List.mem_cons, Prod.mk.injEq, hx, false_and, false_or, if_false]
    · rw [if_neg q]
      by_cases hx : x = a
      · subst hx
        by_cases h0 : st x = 0
        · have hb : ¬ rcond tg len st b := fun c => q ⟨h0, c⟩
          have : (∃ c, (x, c) ∈ (x, b) :: L ∧ rcond tg len st c) ↔ ∃ c, (x, c) ∈ L ∧ rcond tg len st c := by
            constructor
            · rintro ⟨c, h1, h2⟩
              rcases List.mem_cons.1 h1 with e | e
              · simp only [Prod.mk.injEq, true_and] at e; rw [e] at h2; exact absurd h2 hb
              · exact ⟨c, e, h2⟩
            · rintro ⟨c, h1, h2⟩; exact ⟨c, by simp [h1], h2⟩
          simp only [this]
        · rw [if_neg (fun c => h0 c.1), if_neg (fun c => h0 c.1)]
      · simp only [List.mem_cons, Prod.mk.injEq, hx, false_and, false_or]
def rnds (E : List (Nat × Nat)) (tg : Nat) : Nat → (Nat → Nat)
  | 0 => fun _ => 0
  | k + 1 => rnd tg (k + 1) E (rnds E tg k)
theorem rnds_spec (E : List (Nat × Nat)) (tg : Nat) : ∀ k, (∀ a, rnds E tg k a ≤ k) ∧ ∀ a j, j < k → (rnds E tg k a = j + 1 ↔ Sh E (fun x => x ≠ tg) j a tg)
  | 0 => ⟨fun a => Nat.le_refl _, fun a j h => by omega⟩
  | k + 1 => by
    obtain ⟨h1, h2⟩ := rnds_spec E tg k
    have none_ : ∀ a, rnds E tg k a = 0 → ∀ i, i < k → ¬ Wy E (fun x => x ≠ tg) i a tg := fun a h0 i hi w => by
      obtain ⟨i', hi', s⟩ := sh_ex i w
      have := (h2 a i' (by omega)).2 s
      omega
    have new : ∀ a, rnds E tg k a = 0 → ((∃ b, (a, b) ∈ E ∧ rcond tg (k + 1) (rnds E tg k) b) ↔ Sh E (fun x => x ≠ tg) k a tg) := fun a h0 => by
      constructor
      · rintro ⟨b, hb, c | c⟩
        · have : k = 0 := by omega
          subst this
          rw [c.2] at hb
          exact ⟨hb, fun i hi => by omega⟩
        · obtain ⟨m, rfl⟩ : ∃ m, k = m + 1 := ⟨k - 1, by omega⟩
          have := (h2 b m (by omega)).1 (by omega)
          exact ⟨⟨b, hb, c.2.1, this.1⟩, none_ a h0⟩
      · intro s
        cases k with
        | zero => exact ⟨tg, s.1, .inl ⟨rfl, rfl⟩⟩
        | succ m =>
          obtain ⟨c, c1, c2, c3⟩ := sh_step s
          exact ⟨c, c1, .inr ⟨by omega, c2, by rw [(h2 c m (by omega)).2 c3]⟩⟩
    refine ⟨fun a => ?_, fun a j hj => ?_⟩
    · simp only [rnds]; rw [rnd_spec (by omega)]; split
      · exact Nat.le_refl _
      · have := h1 a; omega
    · simp only [rnds]; rw [rnd_spec (by omega)]
      by_cases h0 : rnds E tg k a = 0
      · by_cases c : ∃ b, (a, b) ∈ E ∧ rcond tg (k + 1) (rnds E tg k) b
        · rw [if_pos ⟨h0, c⟩]
          have s := (new a h0).1 c
          constructor
          · intro e; have : j = k := by omega
            subst this; exact s
          · intro e; have := sh_inj e s; omega
        · rw [if_neg (fun q => c q.2)]
          constructor
          · intro e; omega
          · intro e
            exfalso
            by_cases q : j = k
            · subst q; exact c ((new a h0).2 e)
            · exact none_ a h0 j (by omega) e.1
      · rw [if_neg (fun q => h0 q.1)]
        by_cases q : j = k
        · subst q
          have := h1 a
          constructor
          · intro e; omega
          · intro e
            obtain ⟨m, hm⟩ : ∃ m, rnds E tg j a = m + 1 := ⟨rnds E tg j a - 1, by omega⟩
            have := (h2 a m (by omega)).1 hm
            have := sh_inj e this
            omega
        · exact h2 a j (by omega)
theorem rnds_all {E : List (Nat × Nat)} {n : Nat} (hE : ∀ p ∈ E, p.1 < n ∧ p.2 < n) (tg a j : Nat) : rnds E tg n a = j + 1 ↔ Sh E (fun _ => True) j a tg := by
  rw [sh_ne]
  constructor
  · intro h
    have := (rnds_spec E tg n).1 a
    exact ((rnds_spec E tg n).2 a j (by omega)).1 h
  · intro h
    exact ((rnds_spec E tg n).2 a j (sh_len hE j a h)).2 h
theorem find_sorted {P : Nat → Bool} : ∀ (n : Nat) (L : List Nat), L.Pairwise (· < ·) → (∀ x ∈ L, x < n) → L.find? P = (List.range n).find? (fun k => decide (k ∈ L) && P k) := by
  intro n L hL hn
  cases h : L.find? P with
  | none =>
    symm
    rw [List.find?_eq_none]
    intro k _
    simp only [Bool.and_eq_true, decide_eq_true_eq, not_and]
    intro hk
    exact List.find?_eq_none.1 h k hk
  | some k =>
    symm
    obtain ⟨h1, xs, bs, h2, h3⟩ := List.find?_eq_some_iff_append.1 h
    have hk := List.mem_of_find?_eq_some h
    rw [List.find?_range_eq_some]
    refine ⟨?_, List.mem_range.2 (hn k hk), fun j hj => ?_⟩
    · simp [hk, h1]
    · simp only [Bool.not_eq_true', Bool.and_eq_false_iff, decide_eq_false_iff_not]
      by_cases q : j ∈ L
      · right
        rw [h2] at q hL
        rcases List.mem_append.1 q with q | q
        · simpa using h3 j q
        · rcases List.mem_cons.1 q with q | q
          · omega
          · have := (List.pairwise_cons.1 (List.pairwise_append.1 hL).2.1).1 j q
            omega
      · exact .inl q
theorem least_nat (p : Nat → Prop) : ∀ n, p n → ∃ m, m ≤ n ∧ p m ∧ ∀ k, k < m → ¬ p k := by
  intro n
  induction n using Nat.strongRecOn with
  | ind n ih =>
    intro h
    by_cases q : ∃ k, k < n ∧ p k
    · obtain ⟨k, hk, h2⟩ := q
      obtain ⟨m, h3, h4⟩ := ih k hk h2
      exact ⟨m, by omega, h4⟩
    · exact ⟨n, Nat.le_refl _, h, fun k hk h2 => q ⟨k, hk, h2⟩⟩
theorem least_ex {E : List (Nat × Nat)} (h : Cyc E) : ∃ g m, Least E g m := by
  obtain ⟨k, a, w⟩ := h
  obtain ⟨g, _, ⟨a, wa⟩, hg⟩ := least_nat (fun g => ∃ a, Wy E (fun _ => True) g a a) k ⟨a, w⟩
  obtain ⟨m, _, wm, hm⟩ := least_nat (fun m => Wy E (fun _ => True) g m m) a wa
  exact ⟨g, m, wm, fun i a hi w => hg i hi ⟨a, w⟩, fun a ha => hm a ha⟩
def pth (pick : Nat → Nat → Option Nat) : Nat → Nat → List Nat → List Nat
  | 0, _, out => out
  | left + 1, last, out => match pick last (left + 1) with
    | none => pth pick left last out
    | some k => pth pick left k (out ++ [k])
def At (E : List (Nat × Nat)) (g m left last : Nat) : Prop := Sh E (fun _ => True) left last m ∧ ((last = m ∧ left = g) ∨ ∃ i, Wy E (fun _ => True) i m last ∧ i + left + 1 = g)
theorem at_start {E : List (Nat × Nat)} {g m : Nat} (h : Least E g m) : At E g m g m := ⟨⟨h.1, fun i hi w => h.2.1 i m hi w⟩, .inl ⟨rfl, rfl⟩⟩
theorem at_next {E : List (Nat × Nat)} {g m left last k : Nat} (h : At E g m (left + 1) last) (hk : (last, k) ∈ E) : ∃ i, Wy E (fun _ => True) i m k ∧ i + left + 1 = g := by
  rcases h.2 with ⟨e1, e2⟩ | ⟨i, w, e⟩
  · exact ⟨0, by rw [← e1]; exact hk, by omega⟩
  · exact ⟨i + 1, wy_snoc w hk, by omega⟩
def Ok (E : List (Nat × Nat)) (m left last k : Nat) : Prop := (last, k) ∈ E ∧ m < k ∧ Sh E (fun _ => True) left k m
theorem ok_ex {E : List (Nat × Nat)} {g m left last : Nat} (hL : Least E g m) (h : At E g m (left + 1) last) : ∃ k, Ok E m left last k := by
  obtain ⟨c, h1, _, h2⟩ := sh_step h.1
  obtain ⟨i, w, e⟩ := at_next h h1
  exact ⟨c, h1, on_gt hL w h2.1 e, h2⟩
theorem ok_iff_r {E : List (Nat × Nat)} {g m left last k : Nat} (hL : Least E g m) (h : At E g m (left + 1) last) : Ok E m left last k ↔ (last, k) ∈ E ∧ k ≠ m ∧ Sh E (fun _ => True) left k m := by
  constructor
  · rintro ⟨a, b, c⟩; exact ⟨a, by omega, c⟩
  · rintro ⟨a, b, c⟩
    obtain ⟨i, w, e⟩ := at_next h a
    exact ⟨a, on_gt hL w c.1 e, c⟩
theorem ok_iff_p {E : List (Nat × Nat)} {g m left last k : Nat} (hL : Least E g m) (h : At E g m (left + 1) last) : Ok E m left last k ↔ (last, k) ∈ E ∧ m < k ∧ Sh E (fun x => m < x) left k m := by
  constructor
  · rintro ⟨a, b, c⟩
    obtain ⟨i, w, e⟩ := at_next h a
    exact ⟨a, (same_choice hL w e).1 ⟨by omega, c⟩⟩
  · rintro ⟨a, b, c⟩
    obtain ⟨i, w, e⟩ := at_next h a
    obtain ⟨p, q⟩ := (same_choice hL w e).2 ⟨b, c⟩
    exact ⟨a, b, q⟩
def Takes (E : List (Nat × Nat)) (g m : Nat) (pick : Nat → Nat → Option Nat) : Prop := ∀ left last, At E g m (left + 1) last → ∃ k, pick last (left + 1) = some k ∧ Ok E m left last k ∧ ∀ j, j < k → ¬ Ok E m left last j
theorem at_ok {E : List (Nat × Nat)} {g m left last k : Nat} (h : At E g m (left + 1) last) (q : Ok E m left last k) : At E g m left k := ⟨q.2.2, .inr (at_next h q.1)⟩
theorem pth_eq {E : List (Nat × Nat)} {g m : Nat} {p q : Nat → Nat → Option Nat} (hp : Takes E g m p) (hq : Takes E g m q) : ∀ left last out, At E g m left last → pth p left last out = pth q left last out
  | 0, last, out, h => rfl
  | left + 1, last, out, h => by
    obtain ⟨k, k1, k2, k3⟩ := hp left last h
    obtain ⟨j, j1, j2, j3⟩ := hq left last h
    have : k = j := by
      have a : ¬ k < j := fun c => j3 k c k2
      have b : ¬ j < k := fun c => k3 j c j2
      omega
    subst this
    simp only [pth, k1, j1]
    exact pth_eq hp hq left k _ (at_ok h k2)
theorem pth_spec {E : List (Nat × Nat)} {g m : Nat} {p : Nat → Nat → Option Nat} (hp : Takes E g m p) : ∀ left last out, At E g m left last → ∃ t, pth p left last out = out ++ t ∧ t.length = left ∧ t.Nodup ∧ (∀ x ∈ t, m < x ∧ ∃ i, i < left ∧ Sh E (fun _ => True) i x m) ∧ ∀ u a b s, last :: (t ++ [m]) = u ++ a :: b :: s → (a, b) ∈ E
  | 0, last, out, h => ⟨[], by simp [pth], rfl, List.nodup_nil, by simp, fun u a b s e => by
    cases u with
    | nil =>
      simp only [List.nil_append, List.cons.injEq] at e
      rw [← e.1, ← e.2.1]; exact h.1.1
    | cons x u =>
      have := congrArg List.length e
      simp only [List.length_cons, List.length_append, List.length_nil] at this
      omega⟩
  | left + 1, last, out, h => by
    obtain ⟨k, k1, k2, k3⟩ := hp left last h
    obtain ⟨t, t1, t2, t3, t4, t5⟩ := pth_spec hp left k (out ++ [k]) (at_ok h k2)
    simp only [pth, k1]
    refine ⟨k :: t, by rw [t1]; simp, by simp [t2], List.nodup_cons.2 ⟨fun q => ?_, t3⟩, fun x hx => ?_, fun u a b s e => ?_⟩
    · obtain ⟨_, i, hi, s⟩ := t4 k q
      have := sh_inj s k2.2.2; omega
    · rcases List.mem_cons.1 hx with e | e
      · rw [e]; exact ⟨k2.2.1, left, by omega, k2.2.2⟩
      · obtain ⟨a, i, hi, s⟩ := t4 x e
        exact ⟨a, i, by omega, s⟩
    · cases u with
      | nil =>
        simp only [List.nil_append, List.cons_append, List.cons.injEq] at e
        rw [← e.1, ← e.2.1]; exact k2.1
      | cons x u =>
        simp only [List.cons_append, List.cons.injEq] at e
        exact t5 u a b s e.2
def pickP (E : List (Nat × Nat)) (f : Nat) (aw : Nat → Nat) (last left : Nat) : Option Nat := (bh E last).find? fun k => decide (f < k) && decide (aw k = left)
def pickR (E : List (Nat × Nat)) (n m : Nat) (st : Nat → Nat) (last left : Nat) : Option Nat := (List.range n).find? fun k => decide (k ≠ m) && (decide (st k = left) && decide ((last, k) ∈ E))
theorem takes_find {E : List (Nat × Nat)} {n g m : Nat} (hE : ∀ p ∈ E, p.1 < n ∧ p.2 < n) (hL : Least E g m) {pick : Nat → Nat → Option Nat} {P : Nat → Nat → Nat → Bool} (hpk : ∀ last left, pick last (left + 1) = (List.range n).find? (P last left)) (hP : ∀ left last k, At E g m (left + 1) last → (P last left k = true ↔ Ok E m left last k)) : Takes E g m pick := fun left last h => by
  obtain ⟨c, hc⟩ := ok_ex hL h
  rw [hpk]
  cases q : (List.range n).find? (P last left) with
  | none =>
    exfalso
    exact List.find?_eq_none.1 q c (List.mem_range.2 (hE _ hc.1).2) ((hP left last c h).2 hc)
  | some k =>
    rw [List.find?_range_eq_some] at q
    refine ⟨k, rfl, (hP left last k h).1 q.1, fun j hj ho => ?_⟩
    have := q.2.2 j hj
    rw [(hP left last j h).2 ho] at this
    exact absurd this (by decide)
theorem takes_r {E : List (Nat × Nat)} {n g m : Nat} (hE : ∀ p ∈ E, p.1 < n ∧ p.2 < n) (hL : Least E g m) : Takes E g m (pickR E n m (rnds E m n)) :=
  takes_find hE hL (P := fun last left k => decide (k ≠ m) && (decide (rnds E m n k = left + 1) && decide ((last, k) ∈ E))) (fun _ _ => rfl) fun left last k h => by
    rw [ok_iff_r hL h]
    simp only [Bool.and_eq_true, decide_eq_true_eq, rnds_all hE]
    constructor
    · rintro ⟨a, b, c⟩; exact ⟨c, a, b⟩
    · rintro ⟨a, b, c⟩; exact ⟨b, c, a⟩
theorem takes_p {E : List (Nat × Nat)} {n g m : Nat} (hE : ∀ p ∈ E, p.1 < n ∧ p.2 < n) (hs : ∀ i, (bh E i).Pairwise (· < ·)) (hL : Least E g m) {aw : Nat → Nat} (ha : ∀ i j, m ≤ i → (aw i = j + 1 ↔ Sh E (fun x => m < x) j i m)) : Takes E g m (pickP E m aw) :=
  takes_find hE hL (P := fun last left k => decide (k ∈ bh E last) && (decide (m < k) && decide (aw k = left + 1))) (fun last left => find_sorted n _ (hs last) (fun x hx => (hE _ (mem_bh.1 hx)).2)) fun left last k h => by
    rw [ok_iff_p hL h]
    simp only [Bool.and_eq_true, decide_eq_true_eq, mem_bh]
    constructor
    · rintro ⟨a, b, c⟩; exact ⟨a, b, (ha k left (by omega)).1 c⟩
    · rintro ⟨a, b, c⟩; exact ⟨a, b, (ha k left (by omega)).2 c⟩
def Sorted (E : List (Nat × Nat)) : Prop := E.Pairwise fun p q => p.1 < q.1 ∨ (p.1 = q.1 ∧ p.2 < q.2)
theorem bh_sorted {E : List (Nat × Nat)} (h : Sorted E) (i : Nat) : (bh E i).Pairwise (· < ·) := by
  unfold bh
  rw [List.pairwise_map]
  refine List.Pairwise.imp_of_mem ?_ (List.Pairwise.filter _ h)
  intro p q hp hq hpq
  simp only [List.mem_filter, decide_eq_true_eq] at hp hq
  rcases hpq with a | a
  · omega
  · exact a.2
def dist (E : List (Nat × Nat)) (n f : Nat) : Nat → Nat := bfs E f (n + 2) 0 (fun _ => 0) []
def cyc (E : List (Nat × Nat)) (n f : Nat) : List Nat := if dist E n f f = 0 then [] else pth (pickP E f (dist E n f)) (dist E n f f - 1) f [f]
theorem dist_spec {E : List (Nat × Nat)} {n : Nat} (hE : ∀ p ∈ E, p.1 < n ∧ p.2 < n) (f i j : Nat) (h : f ≤ i) : dist E n f i = j + 1 ↔ Sh E (fun x => f < x) j i f := bfs_spec hE (n + 2) 0 _ _ (inv_init E f) (by omega) i j h
theorem pth_len {E : List (Nat × Nat)} {n f : Nat} (hE : ∀ p ∈ E, p.1 < n ∧ p.2 < n) : ∀ left last out, Sh E (fun x => f < x) left last f → (pth (pickP E f (dist E n f)) left last out).length = out.length + left
  | 0, last, out, h => rfl
  | left + 1, last, out, h => by
    obtain ⟨c, c1, c2, c3⟩ := sh_step h
    simp only [pth]
    cases q : pickP E f (dist E n f) last (left + 1) with
    | none =>
      exfalso
      have := List.find?_eq_none.1 q c (mem_bh.2 c1)
      simp only [Bool.and_eq_true, decide_eq_true_eq, not_and] at this
      exact this c2 ((dist_spec hE f c left (by omega)).2 c3)
    | some k =>
      have h1 := List.find?_some q
      simp only [Bool.and_eq_true, decide_eq_true_eq] at h1
      simp only
      rw [pth_len hE left k _ ((dist_spec hE f k left (by omega)).1 h1.2)]
      simp only [List.length_append, List.length_cons, List.length_nil]; omega
theorem cyc_len {E : List (Nat × Nat)} {n : Nat} (hE : ∀ p ∈ E, p.1 < n ∧ p.2 < n) {f j : Nat} (h : Sh E (fun x => f < x) j f f) : (cyc E n f).length = j + 1 := by
  have hd := (dist_spec hE f f j (Nat.le_refl _)).2 h
  unfold cyc
  rw [if_neg (by omega), pth_len hE _ _ _ (by rw [hd]; exact h), hd]
  simp only [List.length_cons, List.length_nil]; omega
theorem cyc_nil {E : List (Nat × Nat)} {n : Nat} (hE : ∀ p ∈ E, p.1 < n ∧ p.2 < n) {f : Nat} (h : ∀ j, ¬ Sh E (fun x => f < x) j f f) : cyc E n f = [] := by
  unfold cyc
  rw [if_pos]
  refine Classical.byContradiction fun c => ?_
  obtain ⟨j, hj⟩ : ∃ j, dist E n f f = j + 1 := ⟨dist E n f f - 1, by omega⟩
  exact h j ((dist_spec hE f f j (Nat.le_refl _)).1 hj)
def sel (E : List (Nat × Nat)) (n : Nat) : List Nat → List Nat → List Nat
  | [], b => b
  | i :: L, b => sel E n L (if cyc E n i ≠ [] ∧ (b = [] ∨ (cyc E n i).length < b.length) then cyc E n i else b)
theorem sel_none {E : List (Nat × Nat)} {n : Nat} (hE : ∀ p ∈ E, p.1 < n ∧ p.2 < n) (h : ¬ Cyc E) : ∀ L, sel E n L [] = []
  | [] => rfl
  | i :: L => by
    have : cyc E n i = [] := cyc_nil hE fun j s => h ⟨j, i, wy_mono (fun _ _ => trivial) _ _ _ s.1⟩
    simp only [sel, this, ne_eq, not_true_eq_false, false_and, if_false]
    exact sel_none hE h L
theorem cyc_alt {E : List (Nat × Nat)} {n : Nat} (hE : ∀ p ∈ E, p.1 < n ∧ p.2 < n) (i : Nat) : cyc E n i = [] ∨ ∃ j, Sh E (fun x => i < x) j i i ∧ (cyc E n i).length = j + 1 := by
  by_cases h : ∃ j, Sh E (fun x => i < x) j i i
  · obtain ⟨j, s⟩ := h; exact .inr ⟨j, s, cyc_len hE s⟩
  · exact .inl (cyc_nil hE fun j s => h ⟨j, s⟩)
theorem sel_after {E : List (Nat × Nat)} {n g m : Nat} (hE : ∀ p ∈ E, p.1 < n ∧ p.2 < n) (hL : Least E g m) : ∀ (L b : List Nat), b.length = g + 1 → sel E n L b = b
  | [], b, _ => rfl
  | i :: L, b, hb => by
    simp only [sel]
    rw [if_neg]
    · exact sel_after hE hL L b hb
    · rintro ⟨h1, h2⟩
      have hb2 : b ≠ [] := fun e => by rw [e] at hb; simp at hb
      rcases cyc_alt hE i with e | ⟨j, s, e⟩
      · exact h1 e
      · have w := wy_mono (T := fun _ => True) (fun _ _ => trivial) _ _ _ s.1
        have : ¬ j < g := fun q => hL.2.1 j i q w
        rcases h2 with h2 | h2
        · exact hb2 h2
        · omega
theorem sel_before {E : List (Nat × Nat)} {n g m : Nat} (hE : ∀ p ∈ E, p.1 < n ∧ p.2 < n) (hL : Least E g m) : ∀ (L R b : List Nat), (∀ i ∈ L, i < m) → (b = [] ∨ g + 1 < b.length) → sel E n (L ++ m :: R) b = cyc E n m
  | [], R, b, _, hb => by
    have s := cyc_len hE (least_restr hL)
    have ne : cyc E n m ≠ [] := fun e => by rw [e] at s; simp at s
    simp only [List.nil_append, sel]
    rw [if_pos ⟨ne, by rcases hb with h | h; exact .inl h; exact .inr (by omega)⟩]
    exact sel_after hE hL R _ s
  | i :: L, R, b, hi, hb => by
    simp only [List.cons_append, sel]
    refine sel_before hE hL L R _ (fun x hx => hi x (by simp [hx])) ?_
    split
    · rename_i h
      rcases cyc_alt hE i with e | ⟨j, s, e⟩
      · exact absurd e h.1
      · right
        have w := wy_mono (T := fun _ => True) (fun _ _ => trivial) _ _ _ s.1
        have h1 : ¬ j < g := fun q => hL.2.1 j i q w
        have h2 : j ≠ g := fun q => hL.2.2 i (hi i (by simp)) (q ▸ w)
        omega
    · exact hb
theorem least_lt {E : List (Nat × Nat)} {n g m : Nat} (hE : ∀ p ∈ E, p.1 < n ∧ p.2 < n) (hL : Least E g m) : m < n := by
  cases g with
  | zero => exact (hE _ hL.1).1
  | succ g => obtain ⟨c, h, _⟩ := hL.1; exact (hE _ h).1
theorem range_split {n m : Nat} (h : m < n) : ∃ R, List.range n = List.range m ++ m :: R := by
  have : m ∈ List.range n := List.mem_range.2 h
  refine ⟨(List.range' (m + 1) (n - m - 1)), ?_⟩
  rw [List.range_eq_range', List.range_eq_range', show n = m + (n - m - 1 + 1) by omega, ← List.range'_append_1, List.range'_succ]
  simp only [Nat.zero_add, show m + (n - m - 1 + 1) - m - 1 = n - m - 1 by omega]
theorem sel_least {E : List (Nat × Nat)} {n g m : Nat} (hE : ∀ p ∈ E, p.1 < n ∧ p.2 < n) (hL : Least E g m) : sel E n (List.range n) [] = cyc E n m := by
  obtain ⟨R, e⟩ := range_split (least_lt hE hL)
  rw [e]
  exact sel_before hE hL _ R [] (fun i hi => List.mem_range.1 hi) (.inl rfl)
theorem cyc_ref {E : List (Nat × Nat)} {n g m : Nat} (hE : ∀ p ∈ E, p.1 < n ∧ p.2 < n) (hs : Sorted E) (hL : Least E g m) : cyc E n m = pth (pickR E n m (rnds E m n)) g m [m] := by
  have hd := (dist_spec hE m m g (Nat.le_refl _)).2 (least_restr hL)
  unfold cyc
  rw [if_neg (by omega), hd, Nat.add_sub_cancel]
  exact pth_eq (takes_p hE (bh_sorted hs) hL fun i j h => dist_spec hE m i j h) (takes_r hE hL) g m [m] (at_start hL)
theorem cyc_good {E : List (Nat × Nat)} {n g m : Nat} (hE : ∀ p ∈ E, p.1 < n ∧ p.2 < n) (hs : Sorted E) (hL : Least E g m) : ∃ t, cyc E n m = m :: t ∧ t.Nodup ∧ (∀ x ∈ t, m < x) ∧ ∀ u a b s, m :: (t ++ [m]) = u ++ a :: b :: s → (a, b) ∈ E := by
  obtain ⟨t, t1, _, t3, t4, t5⟩ := pth_spec (takes_r hE hL) g m [m] (at_start hL)
  exact ⟨t, by rw [cyc_ref hE hs hL, t1]; rfl, t3, fun x hx => (t4 x hx).1, t5⟩
end Go.Proofs.Ytecbmcheojolnaa.Gr
namespace Go.Proofs.Ytecbmcheojolnaa.XA
open Go.RowKit Go.Proofs.Ytecbmcheojolnaa.Opens Go.Proofs.Ytecbmcheojolnaa.Gr Go.Proofs.YtecbmcheojolnaaW.PrintWords Go.Proofs.YtecbmcheojolnaaW.PrintLast Go.Proofs.YtecbmcheojolnaaW.PrintMore
set_option linter.unusedVariables false
set_option linter.unusedSimpArgs false
theorem wr {x : Int} (h : -9223372036854775808 ≤ x ∧ x ≤ 9223372036854775807) : wrap64 x = x := by unfold wrap64; omega
theorem rdT_app (p s : List S47) (e : S47) : rd_T47 (p ++ e :: s) (p.length : Int) = e := by
  simp [rd_T47, List.getD_eq_getElem?_getD]
theorem rd_app (p s : List Int) (e : Int) : rd (p ++ e :: s) (p.length : Int) = e := by
  simp [rd, List.getD_eq_getElem?_getD]
theorem len_app {α : Type} (p s : List α) (e : α) : ((p.length : Nat) : Int) < ((p ++ e :: s).length : Int) := by simp; omega
theorem app_snoc {α : Type} (p s : List α) (e : α) : p ++ e :: s = (p ++ [e]) ++ s := by simp
theorem len_snoc {α : Type} (p : List α) (e : α) : ((p ++ [e]).length : Int) = (p.length : Int) + 1 := by simp
theorem Ev.eq {α : Type} {g : Nat → Option α} {r s : α} (h : Ev g r) (e : r = s) : Ev g s := e ▸ h
theorem Ev.const {α : Type} {g : Nat → Option α} {r : α} (h : ∀ k, g k = some r) : Ev g r := ⟨0, fun k _ => h k⟩
theorem Ev.const1 {α : Type} {g : Nat → Option α} {r : α} (h : ∀ k, g (k + 1) = some r) : Ev g r := ⟨1, fun k hk => by
  obtain ⟨m, rfl⟩ : ∃ m, k = m + 1 := ⟨k - 1, by omega⟩
  exact h m⟩

def bad (n : Int) (e : S47) : Bool := !(decide (0 ≤ e.f0) && decide (e.f0 < n) && (decide (0 ≤ e.f1) && decide (e.f1 < n)))
def dup : List S47 → Bool
  | a :: b :: s => (decide (a.f0 > b.f0) || (decide (a.f0 = b.f0) && decide (a.f1 ≥ b.f1))) || dup (b :: s)
  | _ => false
def chk (n : Int) (l : List S47) : Int := if n > 256 then 7 else if n < 0 then 6 else if l.any (bad n) = true then 6 else if dup l = true then 5 else 0
theorem check2 (a b n : Int) (l : List S47) : precedence_Check_2.f a b n l = some (bad n ⟨a, b⟩) := by
  unfold precedence_Check_2.f precedence_Check_1.f bad
  by_cases h1 : 0 ≤ a <;> by_cases h2 : a < n <;> by_cases h3 : 0 ≤ b <;> by_cases h4 : b < n <;> simp [h1, h2, h3, h4]
theorem idx2 (n : Int) (l2 : List S47) : ∀ (s p : List S47), (p ++ s).length ≤ 1000 → ∃ r, Ev (fun k => slices_IndexFunc_2_int_2_int_by_precedence_Check_2.l0 k (p ++ s) ((p ++ s).length : Int) (p.length : Int) n l2) r ∧ decide (r ≥ 0) = s.any (bad n)
  | [], p, hl => ⟨-1, Ev.const1 fun k => by simp only [slices_IndexFunc_2_int_2_int_by_precedence_Check_2.l0]; rw [if_neg (by simp)], by simp⟩
  | e :: s, p, hl => by
    by_cases hb : bad n e = true
    · refine ⟨p.length, Ev.const1 fun k => ?_, by simp [hb]⟩
      simp only [slices_IndexFunc_2_int_2_int_by_precedence_Check_2.l0]
      rw [if_pos (len_app p s e), if_pos (by omega), if_pos (len_app p s e), rdT_app, check2]
      simp only [Option.bind_some, hb, if_true]
    · obtain ⟨r, h, hr⟩ := idx2 n l2 s (p ++ [e]) (by simpa using hl)
      rw [← app_snoc] at h
      refine ⟨r, Ev.step (fun k => ?_) h, by rw [hr]; simp [hb]⟩
      simp only [slices_IndexFunc_2_int_2_int_by_precedence_Check_2.l0]
      rw [if_pos (len_app p s e), if_pos (by omega), if_pos (len_app p s e), rdT_app, check2]
      simp only [Option.bind_some, hb, if_false]
      have : p.length ≤ 1000 := by simp at hl; omega
      rw [wr (by omega), len_snoc]
      simp
theorem dupP (n : Int) : ∀ (s p : List S47) (a : S47), (p ++ a :: s).length ≤ 1000 → Ev (fun k => precedence_Check.l0 k ((p.length : Int) + 1) n (p ++ a :: s)) (if dup (a :: s) = true then 5 else 0)
  | [], p, a, hl => Ev.const1 fun k => by simp only [precedence_Check.l0]; rw [if_neg (by simp)]; simp [dup]
  | b :: s, p, a, hl => by
    have hp : p.length ≤ 1000 := by simp at hl; omega
    have h1 : rd_T47 (p ++ a :: b :: s) ((p.length : Int) + 1) = b := by
      have := rdT_app (p ++ [a]) s b
      rw [len_snoc, List.append_assoc] at this; exact this
    have hlt : ((p.length : Int) + 1) < ((p ++ a :: b :: s).length : Int) := by simp; omega
    have hst : ∀ k, precedence_Check.l0 (k + 1) ((p.length : Int) + 1) n (p ++ a :: b :: s) = if (a.f0 > b.f0) ∨ (a.f0 = b.f0 ∧ a.f1 ≥ b.f1) then some 5 else precedence_Check.l0 k ((p.length : Int) + 1 + 1) n (p ++ a :: b :: s) := fun k => by
      simp only [precedence_Check.l0]
      rw [if_pos hlt, wr (by omega), show (p.length : Int) + 1 - 1 = p.length by omega, if_pos (by omega), if_pos (by omega), if_pos (by omega), rdT_app, h1, wr (by omega)]
      by_cases q1 : a.f0 > b.f0
      · rw [if_pos q1, if_pos (.inl q1)]
      · by_cases q2 : a.f0 = b.f0
        · by_cases q3 : a.f1 ≥ b.f1
          · rw [if_neg q1, if_pos q2, if_pos q3, if_pos (.inr ⟨q2, q3⟩)]
          · rw [if_neg q1, if_pos q2, if_neg q3, if_neg (by rintro (h | h); exact q1 h; exact q3 h.2)]
        · rw [if_neg q1, if_neg q2, if_neg (by rintro (h | h); exact q1 h; exact q2 h.1)]
    by_cases q : (a.f0 > b.f0) ∨ (a.f0 = b.f0 ∧ a.f1 ≥ b.f1)
    · refine Ev.const1 fun k => ?_
      rw [hst, if_pos q]
      rw [if_pos (by simp only [dup, Bool.or_eq_true, Bool.and_eq_true, decide_eq_true_eq]; exact .inl q)]
    · have ih := dupP n s (p ++ [a]) b (by simpa using hl)
      rw [len_snoc] at ih
      rw [← app_snoc] at ih
      refine Ev.step (fun k => by rw [hst, if_neg q]) (Ev.eq ih ?_)
      have : dup (a :: b :: s) = dup (b :: s) := by
        have : (decide (a.f0 > b.f0) || (decide (a.f0 = b.f0) && decide (a.f1 ≥ b.f1))) = false := by
          rw [Bool.eq_false_iff]; simp only [Bool.or_eq_true, Bool.and_eq_true, decide_eq_true_eq, ne_eq]; exact q
        simp only [dup, this, Bool.false_or]
      rw [this]
theorem Check_ev (n : Int) (l : List S47) (hl : l.length ≤ 1000) : Ev (fun k => precedence_Check.f k n l) (chk n l) := by
  unfold precedence_Check.f chk
  by_cases h1 : n > 256
  · exact Ev.const fun k => by rw [if_pos h1, if_pos h1]
  · by_cases h2 : n < 0
    · refine Ev.const1 fun k => ?_
      rw [if_neg h1, if_pos h2, if_neg h1, if_pos h2]; rfl
    · simp only [if_neg h1, if_neg h2]
      obtain ⟨r, hr, hd⟩ := idx2 n l l [] hl
      unfold slices_ContainsFunc_2_int_2_int_by_precedence_Check_2.f slices_IndexFunc_2_int_2_int_by_precedence_Check_2.f
      refine Ev.bind (a := l.any (bad n)) (f := fun k t => precedence_Check.j0 k t n l) ?_ ?_
      · refine Ev.bind (a := r) (f := fun k t => some (decide (t ≥ 0))) hr (Ev.const fun k => ?_)
        rw [hd]
      · by_cases h3 : l.any (bad n) = true
        · rw [if_pos h3, h3]
          exact Ev.const1 fun k => rfl
        · rw [if_neg h3, Bool.eq_false_iff.2 h3]
          refine Ev.step (f := fun k => precedence_Check.l0 k 1 n l) (fun k => rfl) ?_
          cases l with
          | nil => exact Ev.const1 fun k => rfl
          | cons a s => simpa using dupP n s [] a hl
def em (p : Nat × Nat) : S47 := ⟨(p.1 : Int), (p.2 : Int)⟩
def emb (E : List (Nat × Nat)) : List S47 := E.map em
def toI (l : List Nat) : List Int := l.map fun x : Nat => (x : Int)
def vI (n : Nat) (g : Nat → Nat) : List Int := (List.range n).map fun i => (g i : Int)
def LI (n : Nat) (f : Nat → List Nat) : List (List Int) := (List.range n).map fun i => toI (f i)
def vB (n : Nat) (g : Nat → Bool) : List Bool := (List.range n).map g
structure Val (n : Nat) (E : List (Nat × Nat)) : Prop where
  le : n ≤ 256
  len : E.length ≤ 1000
  lt : ∀ p ∈ E, p.1 < n ∧ p.2 < n
  sorted : Sorted E
theorem dup_sorted : ∀ (E : List (Nat × Nat)), dup (emb E) = false → Sorted E
  | [], _ => List.Pairwise.nil
  | [p], _ => List.pairwise_singleton _ _
  | p :: q :: E, h => by
    simp only [emb, em, List.map_cons, dup, Bool.or_eq_false_iff, Bool.and_eq_false_iff, decide_eq_false_iff_not] at h
    obtain ⟨⟨h1, h2⟩, h3⟩ := h
    have ih := dup_sorted (q :: E) h3
    have hpq : p.1 < q.1 ∨ (p.1 = q.1 ∧ p.2 < q.2) := by omega
    refine List.pairwise_cons.2 ⟨fun x hx => ?_, ih⟩
    rcases List.mem_cons.1 hx with rfl | hx
    · exact hpq
    · have := (List.pairwise_cons.1 ih).1 x hx
      omega
theorem valid {n : Int} {l : List S47} (hl : l.length ≤ 1000) (h : chk n l = 0) : ∃ (m : Nat) (E : List (Nat × Nat)), n = m ∧ l = emb E ∧ Val m E := by
  unfold chk at h
  by_cases h1 : n > 256
  · rw [if_pos h1] at h; omega
  · rw [if_neg h1] at h
    by_cases h2 : n < 0
    · rw [if_pos h2] at h; omega
    · rw [if_neg h2] at h
      by_cases h3 : l.any (bad n) = true
      · rw [if_pos h3] at h; omega
      · rw [if_neg h3] at h
        by_cases h4 : dup l = true
        · rw [if_pos h4] at h; omega
        · have hb : ∀ e ∈ l, (0 ≤ e.f0 ∧ e.f0 < n) ∧ (0 ≤ e.f1 ∧ e.f1 < n) := fun e he => by
            have := List.any_eq_false.1 (Bool.eq_false_iff.2 h3) e he
            unfold bad at this
            simp only [Bool.not_eq_true, Bool.not_eq_false', Bool.and_eq_true, decide_eq_true_eq] at this
            omega
          have he : l = emb (l.map fun e => (e.f0.toNat, e.f1.toNat)) := by
            unfold emb
            rw [List.map_map]
            conv => lhs; rw [← List.map_id l]
            refine List.map_congr_left fun e he => ?_
            obtain ⟨⟨a, b⟩, c, d⟩ := hb e he
            show e = S47.mk _ _
            cases e; simp only [S47.mk.injEq]; simp only at a b c d ⊢; omega
          refine ⟨n.toNat, l.map fun e => (e.f0.toNat, e.f1.toNat), by omega, he, by omega, by simpa using hl, fun p hp => ?_, dup_sorted _ (by rw [← he]; exact Bool.eq_false_iff.2 h4)⟩
          obtain ⟨e, he, rfl⟩ := List.mem_map.1 hp
          obtain ⟨⟨a, b⟩, c, d⟩ := hb e he
          simp only; omega
theorem sorted_dup : ∀ (E : List (Nat × Nat)), Sorted E → dup (emb E) = false
  | [], _ => rfl
  | [p], _ => rfl
  | p :: q :: E, h => by
    have h1 := (List.pairwise_cons.1 h).1 q (by simp)
    have ih := sorted_dup (q :: E) (List.pairwise_cons.1 h).2
    simp only [emb, em, List.map_cons] at ih ⊢
    simp only [dup, Bool.or_eq_false_iff, Bool.and_eq_false_iff, decide_eq_false_iff_not]
    exact ⟨⟨by omega, by omega⟩, ih⟩
theorem val_chk {n : Nat} {E : List (Nat × Nat)} (h : Val n E) : chk n (emb E) = 0 := by
  unfold chk
  rw [if_neg (by have := h.le; omega), if_neg (by omega), if_neg, if_neg (by rw [sorted_dup E h.sorted]; decide)]
  rw [Bool.not_eq_true, List.any_eq_false]
  intro e he
  obtain ⟨p, hp, rfl⟩ := List.mem_map.1 he
  have := h.lt p hp
  unfold bad em
  simp; omega
theorem vI_len (n : Nat) (g : Nat → Nat) : (vI n g).length = n := by simp [vI]
theorem LI_len (n : Nat) (f : Nat → List Nat) : (LI n f).length = n := by simp [LI]
theorem vB_len (n : Nat) (g : Nat → Bool) : (vB n g).length = n := by simp [vB]
theorem toI_len (l : List Nat) : (toI l).length = l.length := by simp [toI]
theorem em_0 (e : Nat × Nat) : (em e).f0 = (e.1 : Int) := rfl
theorem em_1 (e : Nat × Nat) : (em e).f1 = (e.2 : Int) := rfl
theorem emb_len (E : List (Nat × Nat)) : (emb E).length = E.length := by simp [emb]
theorem emb_app (p s : List (Nat × Nat)) : emb (p ++ s) = emb p ++ emb s := by simp [emb]
theorem toI_app (p s : List Nat) : toI (p ++ s) = toI p ++ toI s := by simp [toI]
theorem rd_vI {n i : Nat} (g : Nat → Nat) (h : i < n) : rd (vI n g) (i : Int) = g i := by
  simp [rd, vI, List.getD_eq_getElem?_getD, h]
theorem rdL_LI {n i : Nat} (f : Nat → List Nat) (h : i < n) : rd_L2 (LI n f) (i : Int) = toI (f i) := by
  simp [rd_L2, LI, List.getD_eq_getElem?_getD, h]
theorem rdB_vB {n i : Nat} (g : Nat → Bool) (h : i < n) : rdOf false (vB n g) (i : Int) = g i := by
  simp [rdOf, vB, List.getD_eq_getElem?_getD, h]
theorem map_set {α : Type} {n i : Nat} (g : Nat → α) (v : α) (h : i < n) : ((List.range n).map g).set i v = (List.range n).map fun j => if j = i then v else g j := by
  apply List.ext_getElem?
  intro j
  rw [List.getElem?_set, List.getElem?_map, List.getElem?_map]
  by_cases hj : j < n
  · rw [List.getElem?_range hj]
    by_cases e : i = j
    · subst e; simp [h]
    · rw [if_neg e]; simp [Ne.symm e]
  · rw [List.getElem?_eq_none (by simpa using hj)]
    simp only [List.length_map, List.length_range, h, if_true, Option.map_none]
    rw [if_neg (by omega)]
theorem set_vI {n i : Nat} (g : Nat → Nat) (v : Nat) (h : i < n) : (vI n g).set ((i : Int)).toNat (v : Int) = vI n (upd g i v) := by
  rw [Int.toNat_natCast]
  unfold vI
  rw [map_set _ _ h]
  refine List.map_congr_left fun j _ => ?_
  unfold upd
  split <;> rfl
theorem set_LI {n i : Nat} (f : Nat → List Nat) (v : List Nat) (h : i < n) : (LI n f).set ((i : Int)).toNat (toI v) = LI n (fun j => if j = i then v else f j) := by
  rw [Int.toNat_natCast]
  unfold LI
  rw [map_set _ _ h]
  refine List.map_congr_left fun j _ => ?_
  show _ = toI (if j = i then v else f j)
  split <;> rfl
theorem set_vB {n i : Nat} (g : Nat → Bool) (v : Bool) (h : i < n) : (vB n g).set ((i : Int)).toNat v = vB n (fun j => if j = i then v else g j) := by
  rw [Int.toNat_natCast]
  exact map_set _ _ h
theorem rep_vI (n : Nat) : List.replicate n (0 : Int) = vI n (fun _ => 0) := by
  unfold vI
  rw [List.map_const' , List.length_range]; rfl
theorem rep_LI (n : Nat) : List.replicate n ([] : List Int) = LI n (fun _ => []) := by
  unfold LI
  rw [List.map_const', List.length_range]; rfl
theorem rep_vB (n : Nat) : List.replicate n false = vB n (fun _ => false) := by
  unfold vB
  rw [List.map_const', List.length_range]
theorem rdT_emb (p s : List (Nat × Nat)) (e : Nat × Nat) : rd_T47 (emb (p ++ e :: s)) (p.length : Int) = em e := by
  rw [emb_app, show emb (e :: s) = em e :: emb s from rfl, ← emb_len p]
  exact rdT_app _ _ _
theorem rd_toI (p s : List Nat) (e : Nat) : rd (toI (p ++ e :: s)) (p.length : Int) = e := by
  rw [toI_app, show toI (e :: s) = (e : Int) :: toI s from rfl, ← toI_len p]
  exact rd_app _ _ _
theorem emb_lt (p s : List (Nat × Nat)) (e : Nat × Nat) : ((p.length : Nat) : Int) < ((emb (p ++ e :: s)).length : Int) := by rw [emb_len]; exact len_app p s e
theorem toI_lt (p s : List Nat) (e : Nat) : ((p.length : Nat) : Int) < ((toI (p ++ e :: s)).length : Int) := by rw [toI_len]; exact len_app p s e

theorem bh_snoc (p : List (Nat × Nat)) (e : Nat × Nat) (i : Nat) : bh (p ++ [e]) i = if i = e.1 then bh p e.1 ++ [e.2] else bh p i := by
  unfold bh
  by_cases h : i = e.1
  · subst h; simp
  · rw [if_neg h]; simp [Ne.symm h]
theorem bf_snoc (p : List (Nat × Nat)) (e : Nat × Nat) (i : Nat) : bf (p ++ [e]) i = if i = e.2 then bf p e.2 ++ [e.1] else bf p i := by
  unfold bf
  by_cases h : i = e.2
  · subst h; simp
  · rw [if_neg h]; simp [Ne.symm h]
theorem bh_len (p : List (Nat × Nat)) (i : Nat) : (bh p i).length ≤ p.length := by
  unfold bh; rw [List.length_map]; exact List.length_filter_le _ _
theorem bf_len (p : List (Nat × Nat)) (i : Nat) : (bf p i).length ≤ p.length := by
  unfold bf; rw [List.length_map]; exact List.length_filter_le _ _
theorem lists_go {n : Nat} : ∀ (s p : List (Nat × Nat)), (p ++ s).length ≤ 1000 → (∀ e ∈ p ++ s, e.1 < n ∧ e.2 < n) →
    Ev (fun k => precedence_listsOf.l0 k (emb (p ++ s)) ((emb (p ++ s)).length : Int) (p.length : Int) (LI n (bh p)) (LI n (bf p))) (LI n (bh (p ++ s)), LI n (bf (p ++ s)))
  | [], p, hl, hE => Ev.const1 fun k => by simp only [precedence_listsOf.l0]; rw [if_neg (by rw [emb_len]; simp)]; simp
  | e :: s, p, hl, hE => by
    have hp : p.length ≤ 1000 := by simp at hl; omega
    obtain ⟨he1, he2⟩ := hE e (by simp)
    have ih := lists_go s (p ++ [e]) (by simpa using hl) (by simpa using hE)
    rw [len_snoc, ← app_snoc] at ih
    refine Ev.step (fun k => ?_) ih
    simp only [precedence_listsOf.l0]
    have h1 := bh_len p e.1
    have h2 := bf_len p e.2
    rw [if_pos (emb_lt p s e), if_pos (by omega), if_pos (emb_lt p s e), rdT_emb]
    rw [em_0, em_1, if_pos (by omega), if_pos (by rw [LI_len]; omega), rdL_LI _ he1, rdL_LI _ he2, if_pos (by rw [toI_len]; omega), if_pos (by omega), if_pos (by rw [LI_len]; omega), if_pos (by rw [toI_len]; omega), wr (by omega)]
    rw [show toI (bh p e.1) ++ [(e.2 : Int)] = toI (bh p e.1 ++ [e.2]) by rw [toI_app]; rfl, show toI (bf p e.2) ++ [(e.1 : Int)] = toI (bf p e.2 ++ [e.1]) by rw [toI_app]; rfl, set_LI _ _ he1, set_LI _ _ he2]
    congr 1
    · unfold LI; refine List.map_congr_left fun j _ => ?_; rw [bh_snoc]
    · unfold LI; refine List.map_congr_left fun j _ => ?_; rw [bf_snoc]
theorem lists_ev {n : Nat} {E : List (Nat × Nat)} (h : Val n E) : Ev (fun k => precedence_listsOf.f k n (emb E)) (LI n (bh E), LI n (bf E)) := by
  have := lists_go E [] h.len h.lt
  refine Ev.congr (fun k => ?_) this
  unfold precedence_listsOf.f
  have := h.le
  rw [if_pos (by omega), if_pos (by omega), Int.toNat_natCast, rep_LI]
  rfl

theorem vI_congr {n : Nat} {f g : Nat → Nat} (h : ∀ j, j < n → f j = g j) : vI n f = vI n g := by
  unfold vI
  exact List.map_congr_left fun j hj => by rw [h j (List.mem_range.1 hj)]
theorem vB_congr {n : Nat} {f g : Nat → Bool} (h : ∀ j, j < n → f j = g j) : vB n f = vB n g := by
  unfold vB
  exact List.map_congr_left fun j hj => h j (List.mem_range.1 hj)
theorem find_at {n : Nat} {f : Nat → Bool} {i : Nat} (hi : i < n) (h : f i = true) (hf : ∀ j, j < i → f j = false) : (List.range n).find? f = some i := by
  rw [List.find?_eq_some_iff_append]
  refine ⟨h, List.range i, (List.range (n - i - 1)).map (i + 1 + ·), ?_, fun a ha => by rw [List.mem_range] at ha; simp [hf a ha]⟩
  rw [show n = i + (1 + (n - i - 1)) by omega, List.range_add, List.range_add]
  simp [Nat.add_assoc]
theorem find_none {n : Nat} {f : Nat → Bool} (hf : ∀ j, j < n → f j = false) : (List.range n).find? f = none := by
  rw [List.find?_eq_none]; intro j hj; rw [List.mem_range] at hj; rw [hf j hj]; decide

section
variable {n : Nat} {E : List (Nat × Nat)}
theorem bh_lt (h : Val n E) (i : Nat) : ∀ x ∈ bh E i, x < n := fun x hx => (h.lt _ (mem_bh.1 hx)).2
theorem bf_lt (h : Val n E) (i : Nat) : ∀ x ∈ bf E i, x < n := fun x hx => (h.lt _ (mem_bf.1 hx)).1
theorem ord3 (h : Val n E) (out : List Nat) (i : Nat) (pl : List Bool) (c : Nat) (hc : c ≤ n) (r : List Int) (H : Ev (fun k => precedence_order.l1 k (vI n (wt E (out ++ [i]))) (toI (out ++ [i])) pl n ((c : Int) + 1) (LI n (bh E)) (LI n (bf E))) r) :
    ∀ (s p : List Nat), (p ++ s).length ≤ 1000 → (∀ x ∈ s, x < n) → Ev (fun k => precedence_order.l3 k (vI n (fun j => wt E (out ++ [i]) j + s.count j)) (toI (out ++ [i])) pl n c (toI (p ++ s)) ((toI (p ++ s)).length : Int) (p.length : Int) (LI n (bh E)) (LI n (bf E))) r
  | [], p, hl, hs => by
    have hn := h.le
    refine Ev.step (fun k => ?_) H
    simp only [precedence_order.l3]
    rw [if_neg (by rw [toI_len]; simp), wr (by omega)]
    simp
  | e :: s, p, hl, hs => by
    have hp : p.length ≤ 1000 := by simp at hl; omega
    have he := hs e (by simp)
    have ih := ord3 h out i pl c hc r H s (p ++ [e]) (by simpa using hl) (fun x hx => hs x (by simp [hx]))
    rw [len_snoc, ← app_snoc] at ih
    refine Ev.step (fun k => ?_) ih
    have hw : wt E (out ++ [i]) e ≤ E.length := by unfold wt; exact List.length_filter_le _ _
    have hcn : (s.count e) ≤ s.length := List.count_le_length
    have hl2 := h.len
    simp only [precedence_order.l3]
    rw [if_pos (toI_lt p s e), if_pos (by omega), if_pos (toI_lt p s e), rd_toI, if_pos (by omega), if_pos (by rw [vI_len]; omega), rd_vI _ he, wr (x := (p.length : Int) + 1) (by omega)]
    simp only [List.length_append, List.length_cons] at hl
    rw [List.count_cons_self, wr (by omega), show ((wt E (out ++ [i]) e + (s.count e + 1) : Nat) : Int) - 1 = ((wt E (out ++ [i]) e + s.count e : Nat) : Int) by omega, set_vI _ _ he]
    congr 1
    refine vI_congr fun j hj => ?_
    dsimp only [upd]
    by_cases q : j = e
    · rw [if_pos q, q]
    · rw [if_neg q, List.count_cons_of_ne (Ne.symm q)]
theorem ord2 (h : Val n E) (out : List Nat) (c : Nat) (r : List Int)
    (H : ∀ j, (List.range n).find? (free E out) = some j → Ev (fun k => precedence_order.j3 k (vI n (wt E out)) (toI out) (vB n fun x => decide (x ∈ out)) (j : Int) n c (LI n (bh E)) (LI n (bf E))) r)
    (H0 : (List.range n).find? (free E out) = none → Ev (fun k => precedence_order.j3 k (vI n (wt E out)) (toI out) (vB n fun x => decide (x ∈ out)) (-1) n c (LI n (bh E)) (LI n (bf E))) r) :
    ∀ (m i : Nat), i + m = n → (∀ j, j < i → free E out j = false) → Ev (fun k => precedence_order.l2 k (vI n (wt E out)) (toI out) (vB n fun x => decide (x ∈ out)) (-1) n c ((vI n (wt E out)).length : Int) (i : Int) (LI n (bh E)) (LI n (bf E))) r
  | 0, i, hi, hf => by
    refine Ev.step (fun k => ?_) (H0 (find_none fun j hj => hf j (by omega)))
    simp only [precedence_order.l2]; rw [if_neg (by rw [vI_len]; omega)]
  | m + 1, i, hi, hf => by
    have hn := h.le
    have hin : i < n := by omega
    have hst : ∀ k, precedence_order.l2 (k + 1) (vI n (wt E out)) (toI out) (vB n fun x => decide (x ∈ out)) (-1) n c ((vI n (wt E out)).length : Int) (i : Int) (LI n (bh E)) (LI n (bf E)) = if free E out i = true then precedence_order.j3 k (vI n (wt E out)) (toI out) (vB n fun x => decide (x ∈ out)) (i : Int) n c (LI n (bh E)) (LI n (bf E)) else precedence_order.l2 k (vI n (wt E out)) (toI out) (vB n fun x => decide (x ∈ out)) (-1) n c ((vI n (wt E out)).length : Int) ((i + 1 : Nat) : Int) (LI n (bh E)) (LI n (bf E)) := fun k => by
      simp only [precedence_order.l2]
      rw [if_pos (by rw [vI_len]; omega), if_pos (by omega), if_pos (by rw [vB_len]; omega), rdB_vB _ hin, wr (by omega)]
      unfold free
      by_cases q : i ∈ out
      · simp [q]
      · rw [if_neg (by simp [q]), if_pos (by rw [vI_len]; omega), rd_vI _ hin]
        by_cases z : wt E out i = 0
        · have := wt_zero.1 z
          simp [q, z, this]
        · have hr : ready E out i = false := Bool.eq_false_iff.2 fun e => z (wt_zero.2 e)
          have hz : ¬ ((wt E out i : Nat) : Int) = 0 := by omega
          rw [if_neg hz]; simp [q, hr]
    by_cases q : free E out i = true
    · exact Ev.step (fun k => by rw [hst, if_pos q]) (H i (find_at hin q hf))
    · refine Ev.step (fun k => by rw [hst, if_neg q]) (ord2 h out c r H H0 m (i + 1) (by omega) (fun j hj => ?_))
      by_cases e : j = i
      · rw [e]; exact Bool.eq_false_iff.2 q
      · exact hf j (by omega)
theorem ord1 (h : Val n E) : ∀ (m : Nat) (out : List Nat) (c : Nat), c + m = n → out.length ≤ c → Gr.Good E n out → Ev (fun k => precedence_order.l1 k (vI n (wt E out)) (toI out) (vB n fun x => decide (x ∈ out)) n c (LI n (bh E)) (LI n (bf E))) (toI (ord E n m out))
  | 0, out, c, hc, ho, hg => Ev.const1 fun k => by simp only [precedence_order.l1]; rw [if_neg (by omega)]; rfl
  | m + 1, out, c, hc, ho, hg => by
    have hn := h.le
    refine Ev.step (f := fun k => precedence_order.l2 k (vI n (wt E out)) (toI out) (vB n fun x => decide (x ∈ out)) (-1) n c ((vI n (wt E out)).length : Int) ((0 : Nat) : Int) (LI n (bh E)) (LI n (bf E))) (fun k => ?_) ?_
    · simp only [precedence_order.l1]; rw [if_pos (by omega)]; rfl
    · refine ord2 h out c _ (fun i hj => ?_) (fun hj => ?_) n 0 (by omega) (fun j hj => absurd hj (by omega))
      · obtain ⟨hi, him, hir⟩ := next_some (E := E) (n := n) (out := out) (i := i) hj
        have ih := ord1 h m (out ++ [i]) (c + 1) (by omega) (by simp; omega) (good_snoc hg hi him hir)
        have h3 := ord3 h out i (vB n fun x => decide (x ∈ out ++ [i])) c (by omega) (toI (ord E n m (out ++ [i]))) ih (bh E i) [] (by have := bh_len E i; have := h.len; simp; omega) (bh_lt h i)
        have e1 : vI n (fun j => wt E (out ++ [i]) j + (bh E i).count j) = vI n (wt E out) := vI_congr fun j _ => (wt_snoc him j E).symm
        rw [e1] at h3
        simp only [ord, next, hj]
        refine Ev.step (fun k => ?_) h3
        simp only [precedence_order.j3]
        rw [if_neg (by omega), if_pos (by omega), if_pos (by rw [vB_len]; omega), if_pos (by rw [toI_len]; omega), if_pos (by rw [LI_len]; omega), rdL_LI _ hi, set_vB _ _ hi]
        rw [show toI out ++ [(i : Int)] = toI (out ++ [i]) by rw [toI_app]; rfl]
        have e2 : (vB n fun j => if j = i then true else decide (j ∈ out)) = vB n fun x => decide (x ∈ out ++ [i]) := vB_congr fun j _ => by
          by_cases q : j = i <;> simp [q]
        rw [e2]; rfl
      · simp only [ord, next, hj]
        exact Ev.const1 fun k => by simp only [precedence_order.j3]; rw [if_pos (by omega)]
theorem ord0 (h : Val n E) : ∀ (m i : Nat), i + m = n → Ev (fun k => precedence_order.l0 k (vI n (fun j => if j < i then wt E [] j else 0)) n i n (emb E) (LI n (bh E)) (LI n (bf E))) (toI (order E n))
  | 0, i, hi => by
    have hn := h.le
    have := ord1 h n [] 0 (by omega) (by simp) (good_nil E n)
    refine Ev.step (fun k => ?_) this
    simp only [precedence_order.l0]
    rw [if_neg (by omega), if_pos (by omega), if_pos (by omega), Int.toNat_natCast, rep_vB]
    have e1 : vI n (fun j => if j < i then wt E [] j else 0) = vI n (wt E []) := vI_congr fun j hj => by rw [if_pos (by omega)]
    rw [e1]
    have e2 : vB n (fun _ => false) = vB n fun x => decide (x ∈ ([] : List Nat)) := vB_congr fun j _ => by simp
    rw [e2]; rfl
  | m + 1, i, hi => by
    have hn := h.le
    have hin : i < n := by omega
    have ih := ord0 h m (i + 1) (by omega)
    refine Ev.step (fun k => ?_) ih
    simp only [precedence_order.l0]
    rw [if_pos (by omega), if_pos (by omega), if_pos (by rw [LI_len]; omega), if_pos (by rw [vI_len]; omega), rdL_LI _ hin, toI_len, set_vI _ _ hin, wr (by omega)]
    have e1 : vI n (upd (fun j => if j < i then wt E [] j else 0) i (bf E i).length) = vI n (fun j => if j < i + 1 then wt E [] j else 0) := vI_congr fun j hj => by
      dsimp only [upd]
      by_cases q : j = i
      · rw [if_pos q, if_pos (by omega), q, wt_nil]
      · rw [if_neg q]
        by_cases z : j < i
        · rw [if_pos z, if_pos (by omega)]
        · rw [if_neg z, if_neg (by omega)]
    rw [e1]; rfl
theorem order_ev (h : Val n E) : Ev (fun k => precedence_order.f k n (emb E)) (toI (order E n)) := by
  have hn := h.le
  unfold precedence_order.f
  refine Ev.bind (f := fun k (b : List (List Int) × List (List Int)) => if 0 ≤ (n : Int) then (if ((n : Int)).toNat ≤ 35184372088832 then ((some (List.replicate ((n : Int)).toNat 0 : List Int)).bind fun y => precedence_order.l0 k y (y.length : Int) 0 n (emb E) b.1 b.2) else none) else none) (lists_ev h) ?_
  refine Ev.congr (fun k => ?_) (ord0 h n 0 (by omega))
  rw [if_pos (by omega), if_pos (by omega), Int.toNat_natCast]
  simp only [Option.bind_some]
  rw [rep_vI, vI_len]
  rfl
def srt (n : Nat) (E : List (Nat × Nat)) : List Int × Int := if (order E n).length < n then ([], 13) else (toI (order E n), 0)
theorem sorted_ev (h : Val n E) : Ev (fun k => precedence_sorted.f k n (emb E)) (srt n E) := by
  unfold precedence_sorted.f
  refine Ev.bind (f := fun k t => (if t = 0 then ((precedence_order.f k n (emb E)).bind fun t209 => (if (t209.length : Int) < n then (some (([] : List Int), (13 : Int))) else (some (t209, (0 : Int))))) else (some (([] : List Int), t)))) (Check_ev n (emb E) (by rw [emb_len]; exact h.len)) ?_
  simp only [val_chk h, if_true]
  refine Ev.bind (f := fun k (t209 : List Int) => (if (t209.length : Int) < n then (some (([] : List Int), (13 : Int))) else (some (t209, (0 : Int))))) (order_ev h) (Ev.const fun k => ?_)
  unfold srt
  rw [toI_len]
  by_cases q : (order E n).length < n
  · rw [if_pos (by omega), if_pos q]
  · rw [if_neg (by omega), if_neg q]
end
theorem sorted_bad {m : Int} {l : List S47} (hl : l.length ≤ 1000) (h : chk m l ≠ 0) : Ev (fun k => precedence_sorted.f k m l) ([], chk m l) := by
  unfold precedence_sorted.f
  refine Ev.bind (f := fun k t => (if t = 0 then ((precedence_order.f k m l).bind fun t209 => (if (t209.length : Int) < m then (some (([] : List Int), (13 : Int))) else (some (t209, (0 : Int))))) else (some (([] : List Int), t)))) (Check_ev m l hl) ?_
  simp only [if_neg h]
  exact Ev.const fun k => rfl
theorem Order_sorted {m : Int} {l : List S47} {r : List Int × Int} (h : Ev (fun k => precedence_sorted.f k m l) r) : Ev (fun k => precedence_Order.f k m l) r := by
  unfold precedence_Order.f
  exact Ev.bind (f := fun _ (b : List Int × Int) => some (b.1, b.2)) h (Ev.const fun k => rfl)
def isO (n : Nat) (E : List (Nat × Nat)) (l : List Int) : Prop := ∃ q, l = toI q ∧ q.length = n ∧ Gr.Good E n q
theorem toI_inj {a b : List Nat} (h : toI a = toI b) : a = b := by
  induction a generalizing b with
  | nil => cases b with
    | nil => rfl
    | cons x b => simp [toI] at h
  | cons y a ih => cases b with
    | nil => simp [toI] at h
    | cons x b =>
      simp only [toI, List.map_cons, List.cons.injEq] at h
      rw [ih h.2, show y = x by omega]
theorem toI_split {p : List Nat} {x : Int} {s : List Int} : ∀ {q : List Nat}, toI p ++ x :: s = toI q → ∃ (y : Nat) (t : List Nat), q = p ++ y :: t ∧ x = (y : Int) ∧ s = toI t := by
  induction p with
  | nil =>
    intro q h
    cases q with
    | nil => simp [toI] at h
    | cons y t =>
      simp only [toI, List.map_nil, List.nil_append, List.map_cons, List.cons.injEq] at h
      exact ⟨y, t, rfl, h.1, h.2⟩
  | cons a p ih =>
    intro q h
    cases q with
    | nil => simp [toI] at h
    | cons b q =>
      simp only [toI, List.map_cons, List.cons_append, List.cons.injEq] at h
      obtain ⟨y, t, h1, h2, h3⟩ := ih h.2
      exact ⟨y, t, by rw [h1, show b = a by omega]; rfl, h2, h3⟩
def pl (p : List Nat) (j : Nat) : Nat := if j ∈ p then p.idxOf j + 1 else 0
theorem pl_snoc {p : List Nat} {x : Nat} (h : x ∉ p) (j : Nat) : pl (p ++ [x]) j = upd (pl p) x (p.length + 1) j := by
  dsimp only [pl, upd]
  by_cases q : j = x
  · subst q
    rw [if_pos (by simp), if_pos rfl, List.idxOf_append, if_neg h]; simp
  · rw [if_neg q]
    by_cases z : j ∈ p
    · rw [if_pos (by simp [z]), if_pos z, List.idxOf_append, if_pos z]
    · rw [if_neg (by simp [z, q]), if_neg z]
section
variable {n : Nat} {E : List (Nat × Nat)}
theorem isIdx {g : Nat → Nat} (m : Nat) : ∀ (s p : List (Nat × Nat)), (p ++ s).length ≤ 1000 → (∀ e ∈ s, e.1 < m ∧ e.2 < m) → ∃ r, Ev (fun k => slices_IndexFunc_2_int_2_int_by_precedence_Is_1.l0 k (emb (p ++ s)) ((emb (p ++ s)).length : Int) (p.length : Int) (vI m g)) r ∧ decide (r ≥ 0) = s.any fun e => decide (g e.1 ≥ g e.2)
  | [], p, hl, hs => ⟨-1, Ev.const1 fun k => by simp only [slices_IndexFunc_2_int_2_int_by_precedence_Is_1.l0]; rw [if_neg (by rw [emb_len]; simp)], by simp⟩
  | e :: s, p, hl, hs => by
    have hp : p.length ≤ 1000 := by simp at hl; omega
    obtain ⟨h1, h2⟩ := hs e (by simp)
    have hst : ∀ k, slices_IndexFunc_2_int_2_int_by_precedence_Is_1.l0 (k + 1) (emb (p ++ e :: s)) ((emb (p ++ e :: s)).length : Int) (p.length : Int) (vI m g) = if g e.1 ≥ g e.2 then some (p.length : Int) else slices_IndexFunc_2_int_2_int_by_precedence_Is_1.l0 k (emb (p ++ e :: s)) ((emb (p ++ e :: s)).length : Int) ((p.length : Int) + 1) (vI m g) := fun k => by
      simp only [slices_IndexFunc_2_int_2_int_by_precedence_Is_1.l0]
      rw [if_pos (emb_lt p s e), if_pos (by omega), if_pos (emb_lt p s e), rdT_emb, em_0, em_1, wr (by omega)]
      unfold precedence_Is_1.f
      rw [if_pos (by omega), if_pos (by rw [vI_len]; omega), if_pos (by omega), if_pos (by rw [vI_len]; omega), rd_vI _ h1, rd_vI _ h2]
      simp only [Option.bind_some, decide_eq_true_eq]
      by_cases q : g e.1 ≥ g e.2
      · rw [if_pos q, if_pos (by omega)]
      · rw [if_neg q, if_neg (by omega)]
    by_cases q : g e.1 ≥ g e.2
    · exact ⟨p.length, Ev.const1 fun k => by rw [hst, if_pos q], by simp [q]⟩
    · obtain ⟨r, hr, hd⟩ := isIdx m s (p ++ [e]) (by simpa using hl) (fun e he => hs e (by simp [he]))
      rw [len_snoc, ← app_snoc] at hr
      exact ⟨r, Ev.step (fun k => by rw [hst, if_neg q]) hr, by rw [hd]; simp [q]⟩
theorem is_go (h : Val n E) : ∀ (s : List Int) (p : List Nat), p.length + s.length = n → p.Nodup → (∀ x ∈ p, x < n) →
    ∃ b, Ev (fun k => precedence_Is.l0 k (toI p ++ s) ((toI p ++ s).length : Int) (p.length : Int) n (emb E) (vI n (pl p))) b ∧ (b = true ↔ isO n E (toI p ++ s))
  | [], p, hl, hd, hp => by
    have hn := h.le
    obtain ⟨r, hr, hb⟩ := isIdx (g := pl p) n E [] h.len h.lt
    refine ⟨!(E.any fun e => decide (pl p e.1 ≥ pl p e.2)), Ev.step (f := fun k => (slices_ContainsFunc_2_int_2_int_by_precedence_Is_1.f k (emb E) (vI n (pl p))).bind fun t => some (!t)) (fun k => ?_) ?_, ?_⟩
    · simp only [precedence_Is.l0]; rw [if_neg (by simp [toI_len])]
    · refine Ev.bind (a := E.any fun e => decide (pl p e.1 ≥ pl p e.2)) (f := fun _ t => some (!t)) ?_ (Ev.const fun k => rfl)
      unfold slices_ContainsFunc_2_int_2_int_by_precedence_Is_1.f slices_IndexFunc_2_int_2_int_by_precedence_Is_1.f
      refine Ev.bind (a := r) (f := fun _ t => some (decide (t ≥ 0))) hr (Ev.const fun k => ?_)
      rw [hb]
    · have hln : p.length = n := by simpa using hl
      have hcov := Gr.cover n p hd hp (by omega)
      rw [List.append_nil]
      have hi := is_iff h.lt hd hp hln
      constructor
      · intro hb
        refine ⟨p, rfl, hln, hi.2 fun a b hab => ?_⟩
        simp only [Bool.not_eq_true', List.any_eq_false, decide_eq_true_eq] at hb
        have := hb _ hab
        unfold pl at this
        rw [if_pos (hcov _ (h.lt _ hab).1), if_pos (hcov _ (h.lt _ hab).2)] at this
        dsimp only at this
        omega
      · rintro ⟨q, e, hq, hg⟩
        have := toI_inj e
        subst this
        simp only [Bool.not_eq_true', List.any_eq_false, decide_eq_true_eq]
        intro x hx
        have := hi.1 hg x.1 x.2 hx
        unfold pl
        rw [if_pos (hcov _ (h.lt _ hx).1), if_pos (hcov _ (h.lt _ hx).2)]
        omega
  | x :: s, p, hl, hd, hp => by
    have hn := h.le
    simp only [List.length_cons] at hl
    have hlt : (p.length : Int) < ((toI p ++ x :: s).length : Int) := by rw [← toI_len p]; exact len_app _ _ _
    have hrd : rd (toI p ++ x :: s) (p.length : Int) = x := by rw [← toI_len p]; exact rd_app _ _ _
    by_cases h1 : x < 0
    · refine ⟨false, Ev.const1 fun k => ?_, by simp; rintro ⟨q, e, _⟩; obtain ⟨y, t, _, hx, _⟩ := toI_split e; omega⟩
      simp only [precedence_Is.l0]; rw [if_pos hlt, if_pos (by omega), if_pos hlt, hrd, if_pos h1]
    · by_cases h2 : x ≥ n
      · refine ⟨false, Ev.const1 fun k => ?_, by simp; rintro ⟨q, e, _, hg⟩; obtain ⟨y, t, hq, hx, _⟩ := toI_split e; have := hg.2.1 y (by rw [hq]; simp); omega⟩
        simp only [precedence_Is.l0]; rw [if_pos hlt, if_pos (by omega), if_pos hlt, hrd, if_neg h1, if_pos h2]
      · obtain ⟨y, rfl⟩ : ∃ y : Nat, x = y := ⟨x.toNat, by omega⟩
        have hy : y < n := by omega
        have hst : ∀ k, precedence_Is.l0 (k + 1) (toI p ++ (y : Int) :: s) ((toI p ++ (y : Int) :: s).length : Int) (p.length : Int) n (emb E) (vI n (pl p)) = if y ∈ p then some false else precedence_Is.l0 k (toI p ++ (y : Int) :: s) ((toI p ++ (y : Int) :: s).length : Int) ((p.length : Int) + 1) n (emb E) (vI n (pl (p ++ [y]))) := fun k => by
          simp only [precedence_Is.l0]
          rw [if_pos hlt, if_pos (by omega), if_pos hlt, hrd, if_neg h1, if_neg h2, if_pos (by omega), if_pos (by rw [vI_len]; omega), rd_vI _ hy, wr (by omega)]
          by_cases q : y ∈ p
          · rw [if_pos q, if_pos (by unfold pl; rw [if_pos q]; omega)]
          · rw [if_neg q, if_neg (by unfold pl; rw [if_neg q]; omega), show (p.length : Int) + 1 = ((p.length + 1 : Nat) : Int) by omega, set_vI _ _ hy]
            congr 1
            exact vI_congr fun j _ => (pl_snoc q j).symm
        by_cases q : y ∈ p
        · refine ⟨false, Ev.const1 fun k => by rw [hst, if_pos q], by simp; rintro ⟨z, e, _, hg⟩; obtain ⟨w, t, hz, hx, _⟩ := toI_split e; rw [hz] at hg; have := (List.nodup_append.1 hg.1).2.2 y q w (by simp); omega⟩
        · obtain ⟨b, hb, hi⟩ := is_go h s (p ++ [y]) (by simp; omega) (by
            rw [List.nodup_append]
            refine ⟨hd, by simp, fun a ha c hc => ?_⟩
            simp only [List.mem_singleton] at hc
            rw [hc]; exact fun e => q (e ▸ ha)) (fun z hz => by
            rcases List.mem_append.1 hz with hz | hz
            · exact hp z hz
            · simp only [List.mem_singleton] at hz; omega)
          rw [show toI (p ++ [y]) ++ s = toI p ++ (y : Int) :: s by rw [toI_app, List.append_assoc]; rfl] at hb hi
          rw [len_snoc] at hb
          exact ⟨b, Ev.step (fun k => by rw [hst, if_neg q]) hb, hi⟩
theorem Is_ev (h : Val n E) (l : List Int) (hl : l.length ≤ 1000) : ∃ b, Ev (fun k => precedence_Is.f k n (emb E) l) b ∧ (b = true ↔ isO n E l) := by
  have hn := h.le
  unfold precedence_Is.f
  have hc : ∀ (b : Bool), Ev (fun k => precedence_Is.j0 k l ((l.length : Int) != n) n (emb E)) b → Ev (fun k => (precedence_Check.f k n (emb E)).bind fun t354 => (if t354 = 0 then (precedence_Is.j0 k l ((l.length : Int) != n) n (emb E)) else (precedence_Is.j0 k l true n (emb E)))) b := fun b hb => by
    refine Ev.bind (f := fun k t354 => (if t354 = 0 then (precedence_Is.j0 k l ((l.length : Int) != n) n (emb E)) else (precedence_Is.j0 k l true n (emb E)))) (Check_ev n (emb E) (by rw [emb_len]; exact h.len)) ?_
    simp only [val_chk h, if_true]
    exact hb
  by_cases q : l.length = n
  · obtain ⟨b, hb, hi⟩ := is_go h l [] (by simpa using q) List.nodup_nil (by simp)
    refine ⟨b, hc b ?_, by simpa [toI] using hi⟩
    refine Ev.step (fun k => ?_) hb
    have hq : ((l.length : Int) != n) = false := by rw [bne_eq_false_iff_eq]; omega
    rw [hq]
    simp only [precedence_Is.j0, Bool.false_eq_true, if_false]
    rw [if_pos (by omega), if_pos (by omega), Int.toNat_natCast, rep_vI]
    rfl
  · refine ⟨false, hc false ?_, ?_⟩
    · have hq : ((l.length : Int) != n) = true := by rw [bne_iff_ne]; omega
      rw [hq]
      exact Ev.const1 fun k => rfl
    · simp only [Bool.false_eq_true, false_iff]
      rintro ⟨z, e, hz, _⟩
      exact q (by rw [e, toI_len]; exact hz)
end
section
variable {n : Nat} {E : List (Nat × Nat)}
theorem edge_go (m : Int) (a b : Nat) : ∀ (s p : List (Nat × Nat)), (p ++ s).length ≤ 1000 → Ev (fun k => rf_Edge.l0 k a b (p.length : Int) m (emb (p ++ s))) (decide ((a, b) ∈ s))
  | [], p, hl => Ev.const1 fun k => by simp only [rf_Edge.l0]; rw [if_neg (by rw [emb_len]; simp)]; simp
  | e :: s, p, hl => by
    have hp : p.length ≤ 1000 := by simp at hl; omega
    have hst : ∀ k, rf_Edge.l0 (k + 1) a b (p.length : Int) m (emb (p ++ e :: s)) = if e = (a, b) then some true else rf_Edge.l0 k a b ((p.length : Int) + 1) m (emb (p ++ e :: s)) := fun k => by
      simp only [rf_Edge.l0]
      rw [if_pos (emb_lt p s e), if_pos (by omega), rdT_emb, em_0, em_1, wr (by omega)]
      by_cases q1 : e.1 = a
      · by_cases q2 : e.2 = b
        · rw [if_pos (by omega), if_pos (by omega), if_pos (Prod.ext q1 q2)]
        · rw [if_pos (by omega), if_neg (by omega), if_neg (fun z => q2 (by rw [z]))]
      · rw [if_neg (by omega), if_neg (fun z => q1 (by rw [z]))]
    by_cases q : e = (a, b)
    · exact Ev.const1 fun k => by rw [hst, if_pos q]; simp [q]
    · have ih := edge_go m a b s (p ++ [e]) (by simpa using hl)
      rw [len_snoc, ← app_snoc] at ih
      refine Ev.step (fun k => by rw [hst, if_neg q]) (Ev.eq ih ?_)
      simp [Ne.symm q]
theorem Edge_ev (h : E.length ≤ 1000) (m : Int) (a b : Nat) : Ev (fun k => rf_Edge.f k m (emb E) a b) (decide ((a, b) ∈ E)) := edge_go m a b E [] h

theorem full (h : Val n E) : (order E n).length < n ∨ ((order E n).length = n ∧ ¬ Cyc E) := by
  have := order_len E n
  by_cases q : (order E n).length < n
  · exact .inl q
  · exact .inr ⟨by omega, (full_iff h.lt).1 (by omega)⟩
end
theorem rd_get {l : List Nat} {p x : Nat} (h : l[p]? = some x) : rd (toI l) (p : Int) = x := by
  simp only [rd, toI, List.getD_eq_getElem?_getD, Int.toNat_natCast, List.getElem?_map, h]; rfl
section
variable {n : Nat} {E : List (Nat × Nat)}
theorem cy1 (h : Val n E) (f p x D : Nat) (hp : p ≤ 1000) (hD : D ≤ 100000) (R : List Int) : ∀ (s pre : List Nat) (aw : Nat → Nat) (r : List Nat), (pre ++ s).length ≤ 1000 → (∀ y ∈ s, y < n) → f < n → x < n → (f :: r)[p]? = some x →
    ((x = f ∧ D = 0) ∨ (x ≠ f ∧ aw x = D ∧ 0 < D)) → r.length + s.length ≤ 100000000 →
    (∀ y, aw y ≤ 100001) → Ev (fun k => precedence_cycle.l0 k f (vI n (vis f D s aw r).1) (toI (f :: (vis f D s aw r).2)) ((p : Int) + 1) (LI n (bh E)) (LI n (bf E))) R →
    Ev (fun k => precedence_cycle.l1 k f (vI n aw) (toI (f :: r)) p (toI (pre ++ s)) ((toI (pre ++ s)).length : Int) (pre.length : Int) (LI n (bh E)) (LI n (bf E))) R
  | [], pre, aw, r, hl, hs, hf, hx, hpx, hxD, hr, haw, H => by
    refine Ev.step (fun k => ?_) H
    simp only [precedence_cycle.l1]
    rw [if_neg (by rw [toI_len]; simp), wr (by omega)]
    rfl
  | i :: s, pre, aw, r, hl, hs, hf, hx, hpx, hxD, hr, haw, H => by
    have hn := h.le
    have hpre : pre.length ≤ 1000 := by simp at hl; omega
    have hi := hs i (by simp)
    simp only [List.length_cons] at hr
    have hpl : p < (f :: r).length := by
      refine Classical.byContradiction fun c => ?_
      rw [List.getElem?_eq_none (by omega)] at hpx; cases hpx
    have nx : ∀ (aw' : Nat → Nat) (r' : List Nat), (∃ t, r' = r ++ t ∧ t.length ≤ 1) → (∀ y, aw' y ≤ 100001) → ((x = f ∧ D = 0) ∨ (x ≠ f ∧ aw' x = D ∧ 0 < D)) → vis f D (i :: s) aw r = vis f D s aw' r' →
        Ev (fun k => precedence_cycle.l1 k f (vI n aw') (toI (f :: r')) p (toI (pre ++ i :: s)) ((toI (pre ++ i :: s)).length : Int) ((pre.length : Int) + 1) (LI n (bh E)) (LI n (bf E))) R := fun aw' r' h1 h2 h3 h4 => by
      obtain ⟨t, ht, htl⟩ := h1
      have := cy1 h f p x D hp hD R s (pre ++ [i]) aw' r' (by simpa using hl) (fun y hy => hs y (by simp [hy])) hf hx (by
        rw [ht, ← List.cons_append, List.getElem?_append_left hpl]; exact hpx) h3 (by rw [ht, List.length_append]; omega) h2 (by rw [← h4]; exact H)
      rw [len_snoc, ← app_snoc] at this
      exact this
    have hrd := rd_get hpx
    by_cases q : i < f ∨ 0 < aw i
    · have h2 := nx aw r ⟨[], by simp, by simp⟩ haw hxD (by simp only [vis, if_pos q])
      refine Ev.step (f := fun k => precedence_cycle.j2 k f (vI n aw) (toI (f :: r)) p i (toI (pre ++ i :: s)) ((toI (pre ++ i :: s)).length : Int) (pre.length : Int) true (LI n (bh E)) (LI n (bf E))) (fun k => ?_) (Ev.step (fun k => ?_) h2)
      · simp only [precedence_cycle.l1]
        rw [if_pos (toI_lt pre s i), if_pos (by omega), if_pos (toI_lt pre s i), rd_toI]
        by_cases z : i < f
        · rw [if_pos (by omega)]
        · rw [if_neg (by omega), if_pos (by omega), if_pos (by rw [vI_len]; omega), rd_vI _ hi, decide_eq_true (by omega)]
      · simp only [precedence_cycle.j2, if_true]
        rw [wr (by omega)]
    · have hq1 : ¬ i < f := fun z => q (.inl z)
      have hq2 : aw i = 0 := by omega
      have hix : x ≠ f → i ≠ x := fun z e => by rcases hxD with w | w; exact z w.1; rw [e] at hq2; omega
      have hv : vis f D (i :: s) aw r = vis f D s (upd aw i (D + 1)) (if i = f then r else r ++ [i]) := by simp only [vis, if_neg q]
      have h2 := nx (upd aw i (D + 1)) (if i = f then r else r ++ [i]) (by
        by_cases z : i = f
        · rw [if_pos z]; exact ⟨[], by simp, by simp⟩
        · rw [if_neg z]; exact ⟨[i], rfl, by simp⟩) (fun y => by unfold upd; split; omega; exact haw y) (by
        rcases hxD with w | w
        · exact .inl w
        · refine .inr ⟨w.1, ?_, w.2.2⟩
          unfold upd; rw [if_neg (Ne.symm (hix w.1))]; exact w.2.1) hv
      refine Ev.step (f := fun k => precedence_cycle.j2 k f (vI n aw) (toI (f :: r)) p i (toI (pre ++ i :: s)) ((toI (pre ++ i :: s)).length : Int) (pre.length : Int) false (LI n (bh E)) (LI n (bf E))) (fun k => ?_) (Ev.step (fun k => ?_) h2)
      · simp only [precedence_cycle.l1]
        rw [if_pos (toI_lt pre s i), if_pos (by omega), if_pos (toI_lt pre s i), rd_toI, if_neg (by omega), if_pos (by omega), if_pos (by rw [vI_len]; omega), rd_vI _ hi, hq2, decide_eq_false (by omega)]
      · simp only [precedence_cycle.j2, Bool.false_eq_true, if_false]
        rw [if_pos (by omega), if_pos (by rw [vI_len]; omega)]
        simp only [Option.bind_some]
        have hpush : (if (i : Int) = f then precedence_cycle.l1 k f (vI n (upd aw i (D + 1))) (toI (f :: r)) p (toI (pre ++ i :: s)) ((toI (pre ++ i :: s)).length : Int) (wrap64 ((pre.length : Int) + 1)) (LI n (bh E)) (LI n (bf E)) else if (toI (f :: r)).length < 17592186044416 then precedence_cycle.l1 k f (vI n (upd aw i (D + 1))) (toI (f :: r) ++ [(i : Int)]) p (toI (pre ++ i :: s)) ((toI (pre ++ i :: s)).length : Int) (wrap64 ((pre.length : Int) + 1)) (LI n (bh E)) (LI n (bf E)) else none) = precedence_cycle.l1 k f (vI n (upd aw i (D + 1))) (toI (f :: if i = f then r else r ++ [i])) p (toI (pre ++ i :: s)) ((toI (pre ++ i :: s)).length : Int) ((pre.length : Int) + 1) (LI n (bh E)) (LI n (bf E)) := by
          rw [wr (by omega)]
          by_cases z : i = f
          · rw [if_pos (by omega), if_pos z]
          · rw [if_neg (by omega), if_neg z, if_pos (by rw [toI_len, List.length_cons]; omega)]
            rw [show toI (f :: r) ++ [(i : Int)] = toI (f :: (r ++ [i])) by rw [← List.cons_append, toI_app]; rfl]
        have e1 : (vI n aw).set ((i : Int)).toNat 1 = vI n (upd aw i 1) := set_vI aw 1 hi
        rw [e1, if_pos (by omega), if_pos (by rw [toI_len]; omega), hrd]
        rcases hxD with ⟨w1, w2⟩ | ⟨w1, w2, w3⟩
        · subst w1; subst w2
          rw [if_pos rfl, hpush]
        · rw [if_neg (by omega), if_pos (by omega), if_pos (by rw [vI_len]; omega), rd_vI _ hx]
          have e2 : upd aw i 1 x = D := by unfold upd; rw [if_neg (Ne.symm (hix w1))]; exact w2
          rw [e2, wr (by omega), show (D : Int) + 1 = ((D + 1 : Nat) : Int) by omega, set_vI _ _ hi]
          have e3 : vI n (upd (upd aw i 1) i (D + 1)) = vI n (upd aw i (D + 1)) := vI_congr fun j _ => by unfold upd; split <;> rfl
          rw [e3, hpush]
end
section
variable {n : Nat} {E : List (Nat × Nat)}
theorem vis_le (f D B : Nat) (hD : D + 1 ≤ B) : ∀ (s : List Nat) (aw : Nat → Nat) (r : List Nat), (∀ y, aw y ≤ B) → ∀ y, (vis f D s aw r).1 y ≤ B
  | [], aw, r, h, y => h y
  | i :: s, aw, r, h, y => by
    by_cases q : i < f ∨ 0 < aw i
    · simp only [vis, if_pos q]; exact vis_le f D B hD s aw r h y
    · simp only [vis, if_neg q]; exact vis_le f D B hD s _ _ (fun z => by unfold upd; split; omega; exact h z) y
theorem bv_lt (h : Val n E) {f p : Nat} {aw : Nat → Nat} {r : List Nat} (hB : Bv E f p aw r) : ∀ x ∈ r, x < n := fun x hx => by
  have h2 := (hB.fnd.2.1 x).1 hx
  obtain ⟨m, hm⟩ : ∃ m, aw x = m + 1 := ⟨aw x - 1, by omega⟩
  have := hB.sound x m hm
  cases m with
  | zero => exact (h.lt _ this).1
  | succ m => obtain ⟨c, h3, _⟩ := this; exact (h.lt _ h3).1
theorem cy0 (h : Val n E) {f : Nat} (hf : f < n) (R : List Int) : ∀ (m p : Nat) (aw : Nat → Nat) (r : List Nat), Bv E f p aw r → p ≤ r.length + 1 → n + 2 ≤ m + p → (∀ y, aw y ≤ p) →
    (bfs E f m p aw r f = 0 → R = []) → (bfs E f m p aw r f ≠ 0 → (∀ y, bfs E f m p aw r y ≤ 1000) → Ev (fun k => precedence_cycle.l2 k f (vI n (bfs E f m p aw r)) (toI [f]) ((bfs E f m p aw r f - 1 : Nat) : Int) (LI n (bh E)) (LI n (bf E))) R) →
    Ev (fun k => precedence_cycle.l0 k f (vI n aw) (toI (f :: r)) p (LI n (bh E)) (LI n (bf E))) R
  | 0, p, aw, r, hB, hp, hm, ha, H0, H => by
    have := few n r hB.fnd.1 (bv_lt h hB); omega
  | m + 1, p, aw, r, hB, hp, hm, ha, H0, H => by
    have hn := h.le
    have hrl := few n r hB.fnd.1 (bv_lt h hB)
    cases e : (f :: r)[p]? with
    | none =>
      simp only [bfs, e] at H0 H
      rw [List.getElem?_eq_none_iff] at e
      by_cases q : aw f = 0
      · refine Ev.const1 fun k => ?_
        simp only [precedence_cycle.l0]
        rw [if_neg (by rw [toI_len]; omega), if_pos (by omega), if_pos (by rw [vI_len]; omega), rd_vI _ hf, if_pos (by omega), H0 q]
      · refine Ev.step (fun k => ?_) (H q (fun y => by have := ha y; omega))
        simp only [precedence_cycle.l0]
        rw [if_neg (by rw [toI_len]; omega), if_pos (by omega), if_pos (by rw [vI_len]; omega), rd_vI _ hf, if_neg (by omega)]
        have := ha f
        rw [wr (by omega), show (aw f : Int) - 1 = ((aw f - 1 : Nat) : Int) by omega]
        rfl
    | some x =>
      simp only [bfs, e] at H0 H
      obtain ⟨hpl, hx⟩ := List.getElem?_eq_some_iff.1 e
      have hxn : x < n := by
        rcases List.mem_cons.1 (hx ▸ List.getElem_mem hpl) with z | z
        · omega
        · exact bv_lt h hB x z
      have hD : dq f aw x ≤ p := by unfold dq; split; omega; exact ha x
      have hxD : (x = f ∧ dq f aw x = 0) ∨ (x ≠ f ∧ aw x = dq f aw x ∧ 0 < dq f aw x) := by
        unfold dq
        by_cases z : x = f
        · rw [if_pos z]; exact .inl ⟨z, rfl⟩
        · rw [if_neg z]
          have hxr : x ∈ r := by
            rcases List.mem_cons.1 (hx ▸ List.getElem_mem hpl) with w | w
            · exact absurd w z
            · exact w
          exact .inr ⟨z, rfl, ((hB.fnd.2.1 x).1 hxr).2⟩
      have hb := bf_len E x
      have hlen := h.len
      obtain ⟨t, h1, h2, _, _⟩ := vis_spec f (dq f aw x) (bf E x) aw r hB.fnd
      have ih := cy0 h hf R m (p + 1) (vis f (dq f aw x) (bf E x) aw r).1 (vis f (dq f aw x) (bf E x) aw r).2 (inv_step hB e) (by rw [h1]; simp only [List.length_append, List.length_cons] at hpl ⊢; omega) (by omega) (vis_le f _ (p + 1) (by omega) _ _ _ (fun y => by have := ha y; omega)) H0 H
      have h3 := cy1 h f p x (dq f aw x) (by omega) (by omega) R (bf E x) [] aw r (by simp; omega) (bf_lt h x) hf hxn e hxD (by omega) (fun y => by have := ha y; omega) ih
      refine Ev.step (fun k => ?_) h3
      simp only [precedence_cycle.l0]
      rw [if_pos (by rw [toI_len]; omega), if_pos (by omega), rd_get e, if_pos (by omega), if_pos (by rw [LI_len]; omega), rdL_LI _ hxn]
      rfl
theorem cy3 (h : Val n E) (f : Nat) (aw : Nat → Nat) (haw : ∀ y, aw y ≤ 1000) (left last : Nat) (out : List Nat) (hout : out.length ≤ 100000) (hleft : left ≤ 1000) (R : List Int)
    (H : ∀ k, pickP E f aw last (left + 1) = some k → Ev (fun q => precedence_cycle.l2 q f (vI n aw) (toI (out ++ [k])) left (LI n (bh E)) (LI n (bf E))) R)
    (H0 : pickP E f aw last (left + 1) = none → Ev (fun q => precedence_cycle.l2 q f (vI n aw) (toI out) left (LI n (bh E)) (LI n (bf E))) R) :
    ∀ (s pre : List Nat), pre ++ s = bh E last → (∀ x ∈ pre, (decide (f < x) && decide (aw x = left + 1)) = false) →
    Ev (fun q => precedence_cycle.l3 q f (vI n aw) (toI out) ((left + 1 : Nat) : Int) (toI (pre ++ s)) ((toI (pre ++ s)).length : Int) (pre.length : Int) (LI n (bh E)) (LI n (bf E))) R
  | [], pre, he, hp => by
    refine Ev.step (fun k => ?_) (H0 ?_)
    · simp only [precedence_cycle.l3]
      rw [if_neg (by rw [toI_len]; simp), wr (by omega), show ((left + 1 : Nat) : Int) - 1 = left by omega]
    · unfold pickP
      rw [← he, List.append_nil, List.find?_eq_none]
      intro x hx; rw [hp x hx]; decide
  | e :: s, pre, he, hp => by
    have hlen := bh_len E last
    have hE := h.len
    have hl : (pre ++ e :: s).length ≤ 1000 := by rw [he]; omega
    have hpre : pre.length ≤ 1000 := by simp at hl; omega
    have hen : e < n := bh_lt h last e (by rw [← he]; simp)
    have hst : ∀ q, precedence_cycle.l3 (q + 1) f (vI n aw) (toI out) ((left + 1 : Nat) : Int) (toI (pre ++ e :: s)) ((toI (pre ++ e :: s)).length : Int) (pre.length : Int) (LI n (bh E)) (LI n (bf E)) = if f < e ∧ aw e = left + 1 then precedence_cycle.l2 q f (vI n aw) (toI (out ++ [e])) left (LI n (bh E)) (LI n (bf E)) else precedence_cycle.l3 q f (vI n aw) (toI out) ((left + 1 : Nat) : Int) (toI (pre ++ e :: s)) ((toI (pre ++ e :: s)).length : Int) ((pre.length : Int) + 1) (LI n (bh E)) (LI n (bf E)) := fun q => by
      simp only [precedence_cycle.l3]
      rw [if_pos (toI_lt pre s e), if_pos (by omega), if_pos (toI_lt pre s e), rd_toI, wr (x := (pre.length : Int) + 1) (by omega)]
      by_cases z1 : f < e
      · rw [if_pos (by omega), if_pos (by omega), if_pos (by rw [vI_len]; omega), rd_vI _ hen]
        by_cases z2 : aw e = left + 1
        · rw [if_pos (by omega), if_pos (show (toI out).length < 17592186044416 by rw [toI_len]; omega), if_pos (show f < e ∧ aw e = left + 1 from ⟨z1, z2⟩), wr (by omega), show ((left + 1 : Nat) : Int) - 1 = left by omega, toI_app]
          rfl
        · rw [if_neg (by omega), if_neg (fun w => z2 w.2)]
      · rw [if_neg (by omega), if_neg (fun w => z1 w.1)]
    by_cases z : f < e ∧ aw e = left + 1
    · refine Ev.step (fun q => by rw [hst, if_pos z]) (H e ?_)
      unfold pickP
      rw [← he, List.find?_eq_some_iff_append]
      exact ⟨by simp [z.1, z.2], pre, s, rfl, fun a ha => by simp [hp a ha]⟩
    · have ih := cy3 h f aw haw left last out hout hleft R H H0 s (pre ++ [e]) (by simpa using he) (fun x hx => by
        rcases List.mem_append.1 hx with w | w
        · exact hp x w
        · simp only [List.mem_singleton] at w
          subst w
          rw [Bool.and_eq_false_iff, decide_eq_false_iff_not, decide_eq_false_iff_not]
          exact Classical.or_iff_not_imp_left.2 fun a b => z ⟨Classical.not_not.1 a, b⟩)
      rw [len_snoc, ← app_snoc] at ih
      exact Ev.step (fun q => by rw [hst, if_neg z]) ih
theorem pickP_lt (h : Val n E) {f : Nat} {aw : Nat → Nat} {last left k : Nat} (e : pickP E f aw last left = some k) : k < n := bh_lt h last k (List.mem_of_find?_eq_some e)
theorem cy2 (h : Val n E) (f : Nat) (aw : Nat → Nat) (haw : ∀ y, aw y ≤ 1000) : ∀ (left last : Nat) (o : List Nat), last < n → left ≤ 1000 → o.length + left ≤ 10000 →
    Ev (fun q => precedence_cycle.l2 q f (vI n aw) (toI (o ++ [last])) left (LI n (bh E)) (LI n (bf E))) (toI (pth (pickP E f aw) left last (o ++ [last])))
  | 0, last, o, hl, hL, ho => by
    refine Ev.const1 fun q => ?_
    simp only [precedence_cycle.l2]
    rw [if_neg (by omega), if_pos (by rw [toI_len]; simp)]; rfl
  | left + 1, last, o, hl, hL, ho => by
    have h3 := cy3 h f aw haw left last (o ++ [last]) (by simp; omega) (by omega) (toI (pth (pickP E f aw) (left + 1) last (o ++ [last]))) (fun k hk => by
      simp only [pth, hk]
      exact cy2 h f aw haw left k (o ++ [last]) (pickP_lt h hk) (by omega) (by simp; omega)) (fun hk => by
      simp only [pth, hk]
      exact cy2 h f aw haw left last o hl (by omega) (by omega)) (bh E last) [] rfl (by simp)
    refine Ev.step (fun q => ?_) h3
    simp only [precedence_cycle.l2]
    have e1 : wrap64 (((toI (o ++ [last])).length : Int) - 1) = (o.length : Int) := by rw [toI_len]; simp; rw [wr (by omega)]
    rw [if_pos (by omega), e1, if_pos (by omega), if_pos (by rw [toI_len]; simp; omega), rd_toI, if_pos (by omega), if_pos (by rw [LI_len]; omega), rdL_LI _ hl]
    rfl
theorem cycle_ev (h : Val n E) {f : Nat} (hf : f < n) : Ev (fun k => precedence_cycle.f k (LI n (bh E)) (LI n (bf E)) f) (toI (cyc E n f)) := by
  have hn := h.le
  have h0 := cy0 h hf (toI (cyc E n f)) (n + 2) 0 (fun _ => 0) [] (inv_init E f) (by simp) (by omega) (by simp) (fun e => by unfold cyc dist; rw [if_pos e]; rfl) (fun e hb => by
    unfold cyc dist
    rw [if_neg e]
    exact cy2 h f (bfs E f (n + 2) 0 (fun _ => 0) []) hb (bfs E f (n + 2) 0 (fun _ => 0) [] f - 1) f [] hf (by have := hb f; omega) (by have := hb f; simp; omega))
  refine Ev.congr (fun k => ?_) h0
  unfold precedence_cycle.f
  rw [if_pos (by omega), if_pos (by rw [LI_len]; omega), LI_len, Int.toNat_natCast, rep_vI]
  rfl
theorem toI_nil {l : List Nat} : toI l = [] ↔ l = [] := by unfold toI; exact List.map_eq_nil_iff
theorem best_go (h : Val n E) : ∀ (m i : Nat) (b : List Nat), i + m = n → Ev (fun k => cyc_best k (LI n (bh E)) (LI n (bf E)) m i (toI b)) (toI (sel E n (List.range' i m) b))
  | 0, i, b, hi => Ev.const fun k => rfl
  | m + 1, i, b, hi => by
    have ih := best_go h m (i + 1) (if cyc E n i ≠ [] ∧ (b = [] ∨ (cyc E n i).length < b.length) then cyc E n i else b) (by omega)
    simp only [cyc_best, List.range'_succ, sel]
    refine Ev.bind (f := fun k c => cyc_best k (LI n (bh E)) (LI n (bf E)) m ((i : Int) + 1) (if c = [] then toI b else if toI b = [] then c else if c.length < (toI b).length then c else toI b)) (cycle_ev h (by omega)) ?_
    refine Ev.congr (fun k => ?_) ih
    congr 1
    rw [toI_len, toI_len]
    by_cases q : cyc E n i = []
    · rw [if_pos (toI_nil.2 q), if_neg (fun w => w.1 q)]
    · rw [if_neg (fun w => q (toI_nil.1 w))]
      by_cases z : b = []
      · rw [if_pos (toI_nil.2 z), if_pos ⟨q, .inl z⟩]
      · rw [if_neg (fun w => z (toI_nil.1 w))]
        by_cases w : (cyc E n i).length < b.length
        · rw [if_pos w, if_pos ⟨q, .inr w⟩]
        · rw [if_neg w, if_neg (fun v => v.2.elim z w)]
def bst (n : Nat) (E : List (Nat × Nat)) : List Int × Int := if sel E n (List.range n) [] = [] then ([], 9) else (toI (sel E n (List.range n) []), 0)
theorem Cycle_ev (h : Val n E) : Ev (fun k => precedence_Cycle.f k n (emb E)) (bst n E) := by
  have hn := h.le
  unfold precedence_Cycle.f
  refine Ev.bind (f := fun k t => if t = 0 then ((precedence_listsOf.f k n (emb E)).bind fun p => if 0 ≤ (n : Int) ∧ (n : Int) ≤ 256 then (cyc_best k p.1 p.2 (n : Int).toNat 0 []).bind fun b => (if b = [] then some ([], (9 : Int)) else some (b, (0 : Int))) else none) else some ([], t)) (Check_ev n (emb E) (by rw [emb_len]; exact h.len)) ?_
  simp only [val_chk h, if_true]
  refine Ev.bind (f := fun k (p : List (List Int) × List (List Int)) => if 0 ≤ (n : Int) ∧ (n : Int) ≤ 256 then (cyc_best k p.1 p.2 (n : Int).toNat 0 []).bind fun b => (if b = [] then some ([], (9 : Int)) else some (b, (0 : Int))) else none) (lists_ev h) ?_
  simp only [if_pos (show 0 ≤ (n : Int) ∧ (n : Int) ≤ 256 by omega), Int.toNat_natCast]
  have hb := best_go h n 0 [] (by omega)
  rw [← List.range_eq_range'] at hb
  refine Ev.bind (f := fun k b => (if b = [] then some ([], (9 : Int)) else some (b, (0 : Int)))) hb (Ev.const fun k => ?_)
  unfold bst
  by_cases q : sel E n (List.range n) [] = []
  · rw [if_pos (toI_nil.2 q), if_pos q]
  · rw [if_neg (fun w => q (toI_nil.1 w)), if_neg q]
end
theorem Cycle_bad {m : Int} {l : List S47} (hl : l.length ≤ 1000) (h : chk m l ≠ 0) : Ev (fun k => precedence_Cycle.f k m l) ([], chk m l) := by
  unfold precedence_Cycle.f
  refine Ev.bind (f := fun k t => if t = 0 then ((precedence_listsOf.f k m l).bind fun p => if 0 ≤ m ∧ m ≤ 256 then (cyc_best k p.1 p.2 m.toNat 0 []).bind fun b => (if b = [] then some ([], (9 : Int)) else some (b, (0 : Int))) else none) else some ([], t)) (Check_ev m l hl) ?_
  simp only [if_neg h]
  exact Ev.const fun k => rfl
section
variable {n : Nat} {E : List (Nat × Nat)}
theorem bst_yes (h : Val n E) {g m : Nat} (hL : Least E g m) : bst n E = (toI (pth (pickR E n m (rnds E m n)) g m [m]), 0) ∧ pth (pickR E n m (rnds E m n)) g m [m] = cyc E n m ∧ cyc E n m ≠ [] := by
  have h1 := cyc_ref h.lt h.sorted hL
  have h2 := sel_least h.lt hL
  obtain ⟨t, h3, _⟩ := cyc_good h.lt h.sorted hL
  have h4 : cyc E n m ≠ [] := by rw [h3]; exact List.cons_ne_nil _ _
  refine ⟨?_, h1.symm, h4⟩
  unfold bst
  rw [h2, if_neg h4, h1]
theorem bst_no (h : Val n E) (hc : ¬ Cyc E) : bst n E = ([], 9) := by
  unfold bst
  rw [sel_none h.lt hc, if_pos rfl]
end
theorem awake60 : lw_awake.f 60 = some true := by decide +kernel
theorem awake_ev : Ev (fun k => lw_awake.f k) true := Ev.of (fun k => lw_awake.mono k) awake60
theorem few_cases (n : Int) (l : List S47) : lw_few.f n l = some false ∨ (lw_few.f n l = some true ∧ l.length ≤ 60 ∧ (n ≤ 12 ∨ n > 256)) := by
  unfold lw_few.f
  by_cases h : n ≤ 12
  · rw [if_pos h]
    by_cases q : (l.length : Int) ≤ 60
    · exact .inr ⟨by simp [q], by omega, .inl h⟩
    · exact .inl (by simp [q])
  · rw [if_neg h]
    by_cases h2 : n > 256
    · rw [if_pos h2]
      by_cases q : (l.length : Int) ≤ 60
      · exact .inr ⟨by simp [q], by omega, .inr h2⟩
      · exact .inl (by simp [q])
    · exact .inl (by rw [if_neg h2])
theorem awk {α : Type} {g : Nat → Bool → Option α} {r : α} (h : Ev (fun k => g k true) r) : Ev (fun k => (lw_awake.f k).bind fun t => g k t) r := Ev.bind (f := fun k t => g k t) awake_ev h
end Go.Proofs.Ytecbmcheojolnaa.XA
