import Derived.Test.YtecbmcheojolnaaXAx0
import Derived.Test.YtecbmcheojolnaaXAx2
import Derived.Test.YtecbmcheojolnaaXAx3
import Derived.Test.YtecbmcheojolnaaXAx4
import Derived.Test.YtecbmcheojolnaaXAx5
import Derived.Test.YtecbmcheojolnaaXAx6
import Derived.Test.YtecbmcheojolnaaXAx24
import Derived.Test.YtecbmcheojolnaaXAx25
import Derived.Test.YtecbmcheojolnaaXAx26
import Derived.Test.YtecbmcheojolnaaXAx27
import Derived.Test.YtecbmcheojolnaaHa
import Derived.Test.YtecbmcheojolnaaXAx14
import Derived.Test.YtecbmcheojolnaaXAx15
import Derived.Test.YtecbmcheojolnaaXAx22
import Derived.Test.YtecbmcheojolnaaXAx13
import Derived.Test.YtecbmcheojolnaaXAx28
import Derived.Test.YtecbmcheojolnaaXAx29
import Derived.Test.YtecbmcheojolnaaXAx30
import Derived.Test.YtecbmcheojolnaaXAx31
import Derived.Test.YtecbmcheojolnaaXAx32
import Derived.Test.YtecbmcheojolnaaXAx10
import Derived.Test.YtecbmcheojolnaaXAx11
import Derived.Test.YtecbmcheojolnaaXAx12
import Derived.Test.YtecbmcheojolnaaXAx37
import Derived.Test.YtecbmcheojolnaaXAx20
import Derived.Test.YtecbmcheojolnaaXAx34
import Derived.Test.YtecbmcheojolnaaXAx40
import Derived.Test.YtecbmcheojolnaaXAx8
import Derived.Test.YtecbmcheojolnaaHc
import Derived.Test.YtecbmcheojolnaaXAx35
import Derived.Test.YtecbmcheojolnaaXAx36
import Derived.Test.YtecbmcheojolnaaXAx16
import Derived.Test.YtecbmcheojolnaaXAx17
import Derived.Test.YtecbmcheojolnaaXAx18
import Derived.Test.YtecbmcheojolnaaXAx19
import Derived.Test.YtecbmcheojolnaaXAx21
import Derived.Test.YtecbmcheojolnaaXAx39
import Derived.Test.YtecbmcheojolnaaXAx23
set_option linter.unusedVariables false
set_option linter.unusedSimpArgs false
namespace Go.Proofs.Ytecbmcheojolnaa.Gr
theorem cover : ∀ (n : Nat) (l : List Nat), l.Nodup → (∀ x ∈ l, x < n) → n ≤ l.length → ∀ a, a < n → a ∈ l
  | 0, l, _, _, _, a, ha => absurd ha (by omega)
  | n + 1, l, hd, hl, hn, a, ha => by
    by_cases hm : n ∈ l
    · by_cases e : a = n
      · rw [e]; exact hm
      · have h := cover n (l.erase n) (hd.erase n) (fun x hx => by
          have h1 := hl x (List.mem_of_mem_erase hx)
          have h2 : x ≠ n := fun q => by rw [q] at hx; exact (hd.not_mem_erase hx)
          omega) (by rw [List.length_erase_of_mem hm]; omega) a (by omega)
        exact List.mem_of_mem_erase h
    · have h := cover n (l.tail) (hd.sublist (List.tail_sublist l)) (fun x hx => by
        have h1 := hl x (List.mem_of_mem_tail hx)
        have h2 : x ≠ n := fun q => by rw [q] at hx; exact hm (List.mem_of_mem_tail hx)
        omega) (by rw [List.length_tail]; omega)
      exfalso
      match l, hn, hd, hl, hm, h with
      | [], hn, _, _, _, _ => simp at hn
      | b :: t, hn, hd, hl, hm, h =>
        have hb := hl b (by simp)
        have hbn : b ≠ n := fun q => hm (by simp [q])
        exact (List.nodup_cons.1 hd).1 (h b (by omega))
theorem few (n : Nat) (l : List Nat) (hd : l.Nodup) (hl : ∀ x ∈ l, x < n) : l.length ≤ n := by
  refine Classical.byContradiction fun h => ?_
  match l, hd, hl, h with
  | [], _, _, h => simp at h
  | b :: t, hd, hl, h =>
    have := cover n t (List.nodup_cons.1 hd).2 (fun x hx => hl x (by simp [hx])) (by simp only [List.length_cons] at h; omega) b (hl b (by simp))
    exact (List.nodup_cons.1 hd).1 this
def ready (E : List (Nat × Nat)) (out : List Nat) (i : Nat) : Bool := E.all fun p => decide (p.2 ≠ i) || decide (p.1 ∈ out)
theorem ready_iff {E : List (Nat × Nat)} {out : List Nat} {i : Nat} : ready E out i = true ↔ ∀ a, (a, i) ∈ E → a ∈ out := by
  simp only [ready, List.all_eq_true, Bool.or_eq_true, decide_eq_true_eq]
  constructor
  · intro h a ha
    rcases h _ ha with q | q
    · exact absurd rfl q
    · exact q
  · rintro h ⟨a, b⟩ hp
    by_cases e : b = i
    · right; rw [e] at hp; exact h a hp
    · left; exact e
def free (E : List (Nat × Nat)) (out : List Nat) (i : Nat) : Bool := !decide (i ∈ out) && ready E out i
def next (E : List (Nat × Nat)) (n : Nat) (out : List Nat) : Option Nat := (List.range n).find? (free E out)
def ord (E : List (Nat × Nat)) (n : Nat) : Nat → List Nat → List Nat
  | 0, out => out
  | k + 1, out => match next E n out with
    | none => out
    | some i => ord E n k (out ++ [i])
theorem next_some {E : List (Nat × Nat)} {n : Nat} {out : List Nat} {i : Nat} (h : next E n out = some i) : i < n ∧ i ∉ out ∧ ∀ a, (a, i) ∈ E → a ∈ out := by
  have h1 := List.find?_some h
  have h2 := List.mem_of_find?_eq_some h
  simp only [free, Bool.and_eq_true, Bool.not_eq_true', decide_eq_false_iff_not] at h1
  exact ⟨List.mem_range.1 h2, h1.1, ready_iff.1 h1.2⟩
def Good (E : List (Nat × Nat)) (n : Nat) (l : List Nat) : Prop := l.Nodup ∧ (∀ x ∈ l, x < n) ∧ ∀ p b s, l = p ++ b :: s → ∀ a, (a, b) ∈ E → a ∈ p
theorem good_nil (E : List (Nat × Nat)) (n : Nat) : Good E n [] := ⟨List.nodup_nil, by simp, fun p b s h => by simp at h⟩
theorem good_snoc {E : List (Nat × Nat)} {n : Nat} {l : List Nat} (g : Good E n l) {i : Nat} (hi : i < n) (hm : i ∉ l) (hr : ∀ a, (a, i) ∈ E → a ∈ l) : Good E n (l ++ [i]) := by
  obtain ⟨g1, g2, g3⟩ := g
  refine ⟨?_, ?_, ?_⟩
  · rw [List.nodup_append]
    refine ⟨g1, by simp, fun a ha b hb => ?_⟩
    simp only [List.mem_singleton] at hb
    rw [hb]; exact fun q => hm (q ▸ ha)
  · intro x hx
    rcases List.mem_append.1 hx with h | h
    · exact g2 x h
    · simp only [List.mem_singleton] at h; omega
  · intro p b s h a ha
    rcases List.append_eq_append_iff.1 h with ⟨t, h1, h2⟩ | ⟨t, h1, h2⟩
    · cases t with
      | nil =>
        simp only [List.nil_append, List.cons.injEq, List.append_nil] at h1 h2
        rw [h1, ]; rw [← h2.1] at ha; exact hr a ha
      | cons c t =>
        simp only [List.cons_append, List.cons.injEq] at h2
        exact absurd h2.2 (by simp)
    · cases t with
      | nil =>
        simp only [List.nil_append, List.cons.injEq, List.append_nil] at h1 h2
        rw [← h1]; rw [h2.1] at ha; exact hr a ha
      | cons c t =>
        simp only [List.cons_append, List.cons.injEq] at h2
        obtain ⟨rfl, rfl⟩ := h2
        exact g3 p b t h1 a ha
theorem ord_good {E : List (Nat × Nat)} {n : Nat} : ∀ k {out : List Nat}, Good E n out → Good E n (ord E n k out)
  | 0, out, g => g
  | k + 1, out, g => by
    simp only [ord]
    cases h : next E n out with
    | none => exact g
    | some i =>
      obtain ⟨a, b, c⟩ := next_some h
      exact ord_good k (good_snoc g a b c)
def order (E : List (Nat × Nat)) (n : Nat) : List Nat := ord E n n []
theorem order_good (E : List (Nat × Nat)) (n : Nat) : Good E n (order E n) := ord_good n (good_nil E n)
theorem order_len (E : List (Nat × Nat)) (n : Nat) : (order E n).length ≤ n := few n _ (order_good E n).1 (order_good E n).2.1
theorem good_lt {E : List (Nat × Nat)} {n : Nat} {l : List Nat} (g : Good E n l) {a b : Nat} (h : (a, b) ∈ E) (hb : b ∈ l) : a ∈ l ∧ l.idxOf a < l.idxOf b := by
  obtain ⟨p, s, rfl⟩ := List.append_of_mem hb
  have ha := g.2.2 p b s rfl a h
  have hbp : b ∉ p := fun q => by
    have := (List.nodup_append.1 g.1).2.2 b q b (by simp)
    exact this rfl
  refine ⟨by simp [ha], ?_⟩
  rw [List.idxOf_append, if_pos ha, List.idxOf_append, if_neg hbp]
  have := List.idxOf_lt_length_of_mem ha
  omega
theorem is_iff {E : List (Nat × Nat)} {n : Nat} {l : List Nat} (hE : ∀ p ∈ E, p.1 < n ∧ p.2 < n) (hd : l.Nodup) (hl : ∀ x ∈ l, x < n) (hn : l.length = n) : Good E n l ↔ ∀ a b, (a, b) ∈ E → l.idxOf a < l.idxOf b := by
  constructor
  · intro g a b h
    exact (good_lt g h (cover n l hd hl (by omega) b (hE _ h).2)).2
  · intro h
    refine ⟨hd, hl, fun p b s e a ha => ?_⟩
    have h2 := h a b ha
    have hbp : b ∉ p := fun q => by
      rw [e] at hd
      exact (List.nodup_append.1 hd).2.2 b q b (by simp) rfl
    refine Classical.byContradiction fun c => ?_
    rw [e, List.idxOf_append, if_neg c, List.idxOf_append, if_neg hbp] at h2
    simp only [List.idxOf_cons_self] at h2
    omega
def bh (E : List (Nat × Nat)) (i : Nat) : List Nat := (E.filter fun p => decide (p.1 = i)).map (·.2)
def bf (E : List (Nat × Nat)) (i : Nat) : List Nat := (E.filter fun p => decide (p.2 = i)).map (·.1)
theorem mem_bh {E : List (Nat × Nat)} {a b : Nat} : b ∈ bh E a ↔ (a, b) ∈ E := by
  simp only [bh, List.mem_map, List.mem_filter, decide_eq_true_eq]
  constructor
  · rintro ⟨⟨x, y⟩, ⟨h1, h2⟩, h3⟩; simp only at h2 h3; rw [← h2, ← h3]; exact h1
  · intro h; exact ⟨(a, b), ⟨h, rfl⟩, rfl⟩
def wt (E : List (Nat × Nat)) (out : List Nat) (i : Nat) : Nat := (E.filter fun p => decide (p.2 = i) && !decide (p.1 ∈ out)).length
theorem wt_nil (E : List (Nat × Nat)) (i : Nat) : wt E [] i = (bf E i).length := by
  simp only [wt, bf, List.length_map]
  congr 1
  refine List.filter_congr fun p _ => by simp
theorem wt_zero {E : List (Nat × Nat)} {out : List Nat} {i : Nat} : wt E out i = 0 ↔ ready E out i = true := by
  rw [ready_iff, wt, List.length_eq_zero_iff, List.filter_eq_nil_iff]
  constructor
  · intro h a ha
    have := h _ ha
    simpa using this
  · rintro h ⟨a, b⟩ hp
    simp only [Bool.and_eq_true, decide_eq_true_eq, Bool.not_eq_true', decide_eq_false_iff_not, not_and, Classical.not_not]
    intro e; rw [e] at hp; exact h a hp
theorem wt_snoc {out : List Nat} {i : Nat} (h : i ∉ out) (k : Nat) : ∀ E : List (Nat × Nat), wt E out k = wt E (out ++ [i]) k + (bh E i).count k
  | [] => rfl
  | (a, b) :: E => by
    have ih := wt_snoc h k E
    simp only [wt, bh, List.filter_cons, List.mem_append, List.mem_singleton] at ih ⊢
    by_cases q1 : b = k <;> by_cases q2 : a = i <;> by_cases q3 : a ∈ out <;> simp_all <;> omega
def upd (aw : Nat → Nat) (i v : Nat) : Nat → Nat := fun j => if j = i then v else aw j
def Sorted (E : List (Nat × Nat)) : Prop := E.Pairwise fun p q => p.1 < q.1 ∨ (p.1 = q.1 ∧ p.2 < q.2)
end Go.Proofs.Ytecbmcheojolnaa.Gr
namespace Go.Proofs.Ytecbmcheojolnaa.XA
open Go.RowKit Go.Proofs.Ytecbmcheojolnaa.Opens Go.Proofs.Ytecbmcheojolnaa.Gr Go.Proofs.YtecbmcheojolnaaW.PrintWords Go.Proofs.YtecbmcheojolnaaW.PrintLast Go.Proofs.YtecbmcheojolnaaW.PrintMore
set_option linter.unusedVariables false
set_option linter.unusedSimpArgs false
theorem wr {x : Int} (h : -9223372036854775808 ≤ x ∧ x ≤ 9223372036854775807) : wrap64 x = x := by unfold wrap64; omega
theorem rdT_app (p s : List S47) (e : S47) : rd_T47 (p ++ e :: s) (p.length : Int) = e := by
  simp [rd_T47, List.getD_eq_getElem?_getD]
theorem rd_app (p s : List Int) (e : Int) : rd (p ++ e :: s) (p.length : Int) = e := by
  simp [rd, List.getD_eq_getElem?_getD]
theorem len_app {α : Type} (p s : List α) (e : α) : ((p.length : Nat) : Int) < ((p ++ e :: s).length : Int) := by simp; omega
theorem app_snoc {α : Type} (p s : List α) (e : α) : p ++ e :: s = (p ++ [e]) ++ s := by simp
theorem len_snoc {α : Type} (p : List α) (e : α) : ((p ++ [e]).length : Int) = (p.length : Int) + 1 := by simp
theorem Ev.eq {α : Type} {g : Nat → Option α} {r s : α} (h : Ev g r) (e : r = s) : Ev g s := e ▸ h
theorem Ev.const {α : Type} {g : Nat → Option α} {r : α} (h : ∀ k, g k = some r) : Ev g r := ⟨0, fun k _ => h k⟩
theorem Ev.const1 {α : Type} {g : Nat → Option α} {r : α} (h : ∀ k, g (k + 1) = some r) : Ev g r := ⟨1, fun k hk => by
  obtain ⟨m, rfl⟩ : ∃ m, k = m + 1 := ⟨k - 1, by omega⟩
  exact h m⟩

def bad (n : Int) (e : S47) : Bool := !(decide (0 ≤ e.f0) && decide (e.f0 < n) && (decide (0 ≤ e.f1) && decide (e.f1 < n)))
def dup : List S47 → Bool
  | a :: b :: s => (decide (a.f0 > b.f0) || (decide (a.f0 = b.f0) && decide (a.f1 ≥ b.f1))) || dup (b :: s)
  | _ => false
def chk (n : Int) (l : List S47) : Int := if n > 256 then 7 else if n < 0 then 6 else if l.any (bad n) = true then 6 else if dup l = true then 5 else 0
theorem check2 (a b n : Int) (l : List S47) : precedence_Check_2.f a b n l = some (bad n ⟨a, b⟩) := by
  unfold precedence_Check_2.f precedence_Check_1.f bad
  by_cases h1 : 0 ≤ a <;> by_cases h2 : a < n <;> by_cases h3 : 0 ≤ b <;> by_cases h4 : b < n <;> simp [h1, h2, h3, h4]
theorem idx2 (n : Int) (l2 : List S47) : ∀ (s p : List S47), (p ++ s).length ≤ 1000 → ∃ r, Ev (fun k => slices_IndexFunc_2_int_2_int_by_precedence_Check_2.l0 k (p ++ s) ((p ++ s).length : Int) (p.length : Int) n l2) r ∧ decide (r ≥ 0) = s.any (bad n)
  | [], p, hl => ⟨-1, Ev.const1 fun k => by simp only [slices_IndexFunc_2_int_2_int_by_precedence_Check_2.l0]; rw [if_neg (by simp)], by simp⟩
  | e :: s, p, hl => by
    by_cases hb : bad n e = true
    · refine ⟨p.length, Ev.const1 fun k => ?_, by simp [hb]⟩
      simp only [slices_IndexFunc_2_int_2_int_by_precedence_Check_2.l0]
      rw [if_pos (len_app p s e), if_pos (by omega), if_pos (len_app p s e), rdT_app, check2]
      simp only [Option.bind_some, hb, if_true]
    · obtain ⟨r, h, hr⟩ := idx2 n l2 s (p ++ [e]) (by simpa using hl)
      rw [← app_snoc] at h
      refine ⟨r, Ev.step (fun k => ?_) h, by rw [hr]; simp [hb]⟩
      simp only [slices_IndexFunc_2_int_2_int_by_precedence_Check_2.l0]
      rw [if_pos (len_app p s e), if_pos (by omega), if_pos (len_app p s e), rdT_app, check2]
      simp only [Option.bind_some, hb, if_false]
      have : p.length ≤ 1000 := by simp at hl; omega
      rw [wr (by omega), len_snoc]
      simp
theorem dupP (n : Int) : ∀ (s p : List S47) (a : S47), (p ++ a :: s).length ≤ 1000 → Ev (fun k => precedence_Check.l0 k ((p.length : Int) + 1) n (p ++ a :: s)) (if dup (a :: s) = true then 5 else 0)
  | [], p, a, hl => Ev.const1 fun k => by simp only [precedence_Check.l0]; rw [if_neg (by simp)]; simp [dup]
  | b :: s, p, a, hl => by
    have hp : p.length ≤ 1000 := by simp at hl; omega
    have h1 : rd_T47 (p ++ a :: b :: s) ((p.length : Int) + 1) = b := by
      have := rdT_app (p ++ [a]) s b
      rw [len_snoc, List.append_assoc] at this; exact this
    have hlt : ((p.length : Int) + 1) < ((p ++ a :: b :: s).length : Int) := by simp; omega
    have hst : ∀ k, precedence_Check.l0 (k + 1) ((p.length : Int) + 1) n (p ++ a :: b :: s) = if (a.f0 > b.f0) ∨ (a.f0 = b.f0 ∧ a.f1 ≥ b.f1) then some 5 else precedence_Check.l0 k ((p.length : Int) + 1 + 1) n (p ++ a :: b :: s) := fun k => by
      simp only [precedence_Check.l0]
      rw [if_pos hlt, wr (by omega), show (p.length : Int) + 1 - 1 = p.length by omega, if_pos (by omega), if_pos (by omega), if_pos (by omega), rdT_app, h1, wr (by omega)]
      by_cases q1 : a.f0 > b.f0
      · rw [if_pos q1, if_pos (.inl q1)]
      · by_cases q2 : a.f0 = b.f0
        · by_cases q3 : a.f1 ≥ b.f1
          · rw [if_neg q1, if_pos q2, if_pos q3, if_pos (.inr ⟨q2, q3⟩)]
          · rw [if_neg q1, if_pos q2, if_neg q3, if_neg (by rintro (h | h); exact q1 h; exact q3 h.2)]
        · rw [if_neg q1, if_neg q2, if_neg (by rintro (h | h); exact q1 h; exact q2 h.1)]
    by_cases q : (a.f0 > b.f0) ∨ (a.f0 = b.f0 ∧ a.f1 ≥ b.f1)
    · refine Ev.const1 fun k => ?_
      rw [hst, if_pos q]
      rw [if_pos (by simp only [dup, Bool.or_eq_true, Bool.and_eq_true, decide_eq_true_eq]; exact .inl q)]
    · have ih := dupP n s (p ++ [a]) b (by simpa using hl)
      rw [len_snoc] at ih
      rw [← app_snoc] at ih
      refine Ev.step (fun k => by rw [hst, if_neg q]) (Ev.eq ih ?_)
      have : dup (a :: b :: s) = dup (b :: s) := by
        have : (decide (a.f0 > b.f0) || (decide (a.f0 = b.f0) && decide (a.f1 ≥ b.f1))) = false := by
          rw [Bool.eq_false_iff]; simp only [Bool.or_eq_true, Bool.and_eq_true, decide_eq_true_eq, ne_eq]; exact q
        simp only [dup, this, Bool.false_or]
      rw [this]
theorem Check_ev (n : Int) (l : List S47) (hl : l.length ≤ 1000) : Ev (fun k => precedence_Check.f k n l) (chk n l) := by
  unfold precedence_Check.f chk
  by_cases h1 : n > 256
  · exact Ev.const fun k => by rw [if_pos h1, if_pos h1]
  · by_cases h2 : n < 0
    · refine Ev.const1 fun k => ?_
      rw [if_neg h1, if_pos h2, if_neg h1, if_pos h2]; rfl
    · simp only [if_neg h1, if_neg h2]
      obtain ⟨r, hr, hd⟩ := idx2 n l l [] hl
      unfold slices_ContainsFunc_2_int_2_int_by_precedence_Check_2.f slices_IndexFunc_2_int_2_int_by_precedence_Check_2.f
      refine Ev.bind (a := l.any (bad n)) (f := fun k t => precedence_Check.j0 k t n l) ?_ ?_
      · refine Ev.bind (a := r) (f := fun k t => some (decide (t ≥ 0))) hr (Ev.const fun k => ?_)
        rw [hd]
      · by_cases h3 : l.any (bad n) = true
        · rw [if_pos h3, h3]
          exact Ev.const1 fun k => rfl
        · rw [if_neg h3, Bool.eq_false_iff.2 h3]
          refine Ev.step (f := fun k => precedence_Check.l0 k 1 n l) (fun k => rfl) ?_
          cases l with
          | nil => exact Ev.const1 fun k => rfl
          | cons a s => simpa using dupP n s [] a hl
theorem rdup (n : Int) : ∀ (s p : List S47) (a : S47), (p ++ a :: s).length ≤ 1000 → Ev (fun k => rf_Check.l1 k ((p.length : Int) + 1) n (p ++ a :: s)) (if dup (a :: s) = true then 5 else 0)
  | [], p, a, hl => Ev.const1 fun k => by simp only [rf_Check.l1]; rw [if_neg (by simp)]; simp [dup]
  | b :: s, p, a, hl => by
    have hp : p.length ≤ 1000 := by simp at hl; omega
    have h1 : rd_T47 (p ++ a :: b :: s) ((p.length : Int) + 1) = b := by
      have := rdT_app (p ++ [a]) s b
      rw [len_snoc, List.append_assoc] at this; exact this
    have hlt : ((p.length : Int) + 1) < ((p ++ a :: b :: s).length : Int) := by simp; omega
    have hst : ∀ k, rf_Check.l1 (k + 1) ((p.length : Int) + 1) n (p ++ a :: b :: s) = if (a.f0 > b.f0) ∨ (a.f0 = b.f0 ∧ a.f1 ≥ b.f1) then some 5 else rf_Check.l1 k ((p.length : Int) + 1 + 1) n (p ++ a :: b :: s) := fun k => by
      simp only [rf_Check.l1]
      rw [if_pos hlt, wr (by omega), show (p.length : Int) + 1 - 1 = p.length by omega, if_pos (by omega), if_pos (by omega), if_pos (by omega), rdT_app, h1, wr (by omega)]
      by_cases q1 : a.f0 > b.f0
      · rw [if_pos q1, if_pos (.inl q1)]
      · by_cases q2 : a.f0 = b.f0
        · by_cases q3 : a.f1 ≥ b.f1
          · rw [if_neg q1, if_pos q2, if_pos q3, if_pos (.inr ⟨q2, q3⟩)]
          · rw [if_neg q1, if_pos q2, if_neg q3, if_neg (by rintro (h | h); exact q1 h; exact q3 h.2)]
        · rw [if_neg q1, if_neg q2, if_neg (by rintro (h | h); exact q1 h; exact q2 h.1)]
    by_cases q : (a.f0 > b.f0) ∨ (a.f0 = b.f0 ∧ a.f1 ≥ b.f1)
    · refine Ev.const1 fun k => ?_
      rw [hst, if_pos q]
      rw [if_pos (by simp only [dup, Bool.or_eq_true, Bool.and_eq_true, decide_eq_true_eq]; exact .inl q)]
    · have ih := rdup n s (p ++ [a]) b (by simpa using hl)
      rw [len_snoc] at ih
      rw [← app_snoc] at ih
      refine Ev.step (fun k => by rw [hst, if_neg q]) (Ev.eq ih ?_)
      have : dup (a :: b :: s) = dup (b :: s) := by
        have : (decide (a.f0 > b.f0) || (decide (a.f0 = b.f0) && decide (a.f1 ≥ b.f1))) = false := by
          rw [Bool.eq_false_iff]; simp only [Bool.or_eq_true, Bool.and_eq_true, decide_eq_true_eq, ne_eq]; exact q
        simp only [dup, this, Bool.false_or]
      rw [this]
theorem rbad (n : Int) : ∀ (s p : List S47), (p ++ s).length ≤ 1000 → Ev (fun k => rf_Check.l0 k (p.length : Int) n (p ++ s)) (if s.any (bad n) = true then 6 else if dup (p ++ s) = true then 5 else 0)
  | [], p, hl => by
    refine Ev.step (f := fun k => rf_Check.l1 k 1 n (p ++ [])) (fun k => ?_) ?_
    · simp only [rf_Check.l0]; rw [if_neg (by simp)]
    · rw [List.append_nil] at hl ⊢
      simp only [List.any_nil, Bool.false_eq_true, if_false]
      cases p with
      | nil => exact Ev.const1 fun k => rfl
      | cons a s => simpa using rdup n s [] a hl
  | e :: s, p, hl => by
    have hp : p.length ≤ 1000 := by simp at hl; omega
    have hst : ∀ k, rf_Check.l0 (k + 1) (p.length : Int) n (p ++ e :: s) = if bad n e = true then some 6 else rf_Check.l0 k ((p.length : Int) + 1) n (p ++ e :: s) := fun k => by
      simp only [rf_Check.l0]
      rw [if_pos (len_app p s e), if_pos (by omega), rdT_app, wr (by omega)]
      unfold bad
      by_cases q1 : e.f0 < 0
      · rw [if_pos q1, if_pos (by simp; omega)]
      · by_cases q2 : e.f0 ≥ n
        · rw [if_neg q1, if_pos q2, if_pos (by simp; omega)]
        · by_cases q3 : e.f1 < 0
          · rw [if_neg q1, if_neg q2, if_pos q3, if_pos (by simp; omega)]
          · by_cases q4 : e.f1 ≥ n
            · rw [if_neg q1, if_neg q2, if_neg q3, if_pos q4, if_pos (by simp; omega)]
            · rw [if_neg q1, if_neg q2, if_neg q3, if_neg q4, if_neg (by simp; omega)]
    by_cases q : bad n e = true
    · exact Ev.const1 fun k => by rw [hst, if_pos q]; simp [q]
    · have ih := rbad n s (p ++ [e]) (by simpa using hl)
      rw [len_snoc, ← app_snoc] at ih
      refine Ev.step (fun k => by rw [hst, if_neg q]) (Ev.eq ih ?_)
      simp [q]
theorem rCheck_ev (n : Int) (l : List S47) (hl : l.length ≤ 1000) : Ev (fun k => rf_Check.f k n l) (chk n l) := by
  unfold rf_Check.f chk
  by_cases h1 : n > 256
  · exact Ev.const fun k => by rw [if_pos h1, if_pos h1]
  · by_cases h2 : n < 0
    · exact Ev.const fun k => by rw [if_neg h1, if_pos h2, if_neg h1, if_pos h2]
    · simp only [if_neg h1, if_neg h2]
      simpa using rbad n l [] hl

def em (p : Nat × Nat) : S47 := ⟨(p.1 : Int), (p.2 : Int)⟩
def emb (E : List (Nat × Nat)) : List S47 := E.map em
def toI (l : List Nat) : List Int := l.map fun x : Nat => (x : Int)
def vI (n : Nat) (g : Nat → Nat) : List Int := (List.range n).map fun i => (g i : Int)
def LI (n : Nat) (f : Nat → List Nat) : List (List Int) := (List.range n).map fun i => toI (f i)
def vB (n : Nat) (g : Nat → Bool) : List Bool := (List.range n).map g
structure Val (n : Nat) (E : List (Nat × Nat)) : Prop where
  le : n ≤ 256
  len : E.length ≤ 1000
  lt : ∀ p ∈ E, p.1 < n ∧ p.2 < n
  sorted : Sorted E
theorem dup_sorted : ∀ (E : List (Nat × Nat)), dup (emb E) = false → Sorted E
  | [], _ => List.Pairwise.nil
  | [p], _ => List.pairwise_singleton _ _
  | p :: q :: E, h => by
    simp only [emb, em, List.map_cons, dup, Bool.or_eq_false_iff, Bool.and_eq_false_iff, decide_eq_false_iff_not] at h
    obtain ⟨⟨h1, h2⟩, h3⟩ := h
    have ih := dup_sorted (q :: E) h3
    have hpq : p.1 < q.1 ∨ (p.1 = q.1 ∧ p.2 < q.2) := by omega
    refine List.pairwise_cons.2 ⟨fun x hx => ?_, ih⟩
    rcases List.mem_cons.1 hx with rfl | hx
    · exact hpq
    · have := (List.pairwise_cons.1 ih).1 x hx
      omega
theorem valid {n : Int} {l : List S47} (hl : l.length ≤ 1000) (h : chk n l = 0) : ∃ (m : Nat) (E : List (Nat × Nat)), n = m ∧ l = emb E ∧ Val m E := by
  unfold chk at h
  by_cases h1 : n > 256
  · rw [if_pos h1] at h; omega
  · rw [if_neg h1] at h
    by_cases h2 : n < 0
    · rw [if_pos h2] at h; omega
    · rw [if_neg h2] at h
      by_cases h3 : l.any (bad n) = true
      · rw [if_pos h3] at h; omega
      · rw [if_neg h3] at h
        by_cases h4 : dup l = true
        · rw [if_pos h4] at h; omega
        · have hb : ∀ e ∈ l, (0 ≤ e.f0 ∧ e.f0 < n) ∧ (0 ≤ e.f1 ∧ e.f1 < n) := fun e he => by
            have := List.any_eq_false.1 (Bool.eq_false_iff.2 h3) e he
            unfold bad at this
            simp only [Bool.not_eq_true, Bool.not_eq_false', Bool.and_eq_true, decide_eq_true_eq] at this
            omega
          have he : l = emb (l.map fun e => (e.f0.toNat, e.f1.toNat)) := by
            unfold emb
            rw [List.map_map]
            conv => lhs; rw [← List.map_id l]
            refine List.map_congr_left fun e he => ?_
            obtain ⟨⟨a, b⟩, c, d⟩ := hb e he
            show e = S47.mk _ _
            cases e; simp only [S47.mk.injEq]; simp only at a b c d ⊢; omega
          refine ⟨n.toNat, l.map fun e => (e.f0.toNat, e.f1.toNat), by omega, he, by omega, by simpa using hl, fun p hp => ?_, dup_sorted _ (by rw [← he]; exact Bool.eq_false_iff.2 h4)⟩
          obtain ⟨e, he, rfl⟩ := List.mem_map.1 hp
          obtain ⟨⟨a, b⟩, c, d⟩ := hb e he
          simp only; omega
theorem sorted_dup : ∀ (E : List (Nat × Nat)), Sorted E → dup (emb E) = false
  | [], _ => rfl
  | [p], _ => rfl
  | p :: q :: E, h => by
    have h1 := (List.pairwise_cons.1 h).1 q (by simp)
    have ih := sorted_dup (q :: E) (List.pairwise_cons.1 h).2
    simp only [emb, em, List.map_cons] at ih ⊢
    simp only [dup, Bool.or_eq_false_iff, Bool.and_eq_false_iff, decide_eq_false_iff_not]
    exact ⟨⟨by omega, by omega⟩, ih⟩
theorem val_chk {n : Nat} {E : List (Nat × Nat)} (h : Val n E) : chk n (emb E) = 0 := by
  unfold chk
  rw [if_neg (by have := h.le; omega), if_neg (by omega), if_neg, if_neg (by rw [sorted_dup E h.sorted]; decide)]
  rw [Bool.not_eq_true, List.any_eq_false]
  intro e he
  obtain ⟨p, hp, rfl⟩ := List.mem_map.1 he
  have := h.lt p hp
  unfold bad em
  simp; omega
theorem vI_len (n : Nat) (g : Nat → Nat) : (vI n g).length = n := by simp [vI]
theorem LI_len (n : Nat) (f : Nat → List Nat) : (LI n f).length = n := by simp [LI]
theorem vB_len (n : Nat) (g : Nat → Bool) : (vB n g).length = n := by simp [vB]
theorem toI_len (l : List Nat) : (toI l).length = l.length := by simp [toI]
theorem em_0 (e : Nat × Nat) : (em e).f0 = (e.1 : Int) := rfl
theorem em_1 (e : Nat × Nat) : (em e).f1 = (e.2 : Int) := rfl
theorem emb_len (E : List (Nat × Nat)) : (emb E).length = E.length := by simp [emb]
theorem emb_app (p s : List (Nat × Nat)) : emb (p ++ s) = emb p ++ emb s := by simp [emb]
theorem toI_app (p s : List Nat) : toI (p ++ s) = toI p ++ toI s := by simp [toI]
theorem rd_vI {n i : Nat} (g : Nat → Nat) (h : i < n) : rd (vI n g) (i : Int) = g i := by
  simp [rd, vI, List.getD_eq_getElem?_getD, h]
theorem rdL_LI {n i : Nat} (f : Nat → List Nat) (h : i < n) : rd_L2 (LI n f) (i : Int) = toI (f i) := by
  simp [rd_L2, LI, List.getD_eq_getElem?_getD, h]
theorem rdB_vB {n i : Nat} (g : Nat → Bool) (h : i < n) : rdOf false (vB n g) (i : Int) = g i := by
  simp [rdOf, vB, List.getD_eq_getElem?_getD, h]
theorem map_set {α : Type} {n i : Nat} (g : Nat → α) (v : α) (h : i < n) : ((List.range n).map g).set i v = (List.range n).map fun j => if j = i then v else g j := by
  apply List.ext_getElem?
  intro j
  rw [List.getElem?_set, List.getElem?_map, List.getElem?_map]
  by_cases hj : j < n
  · rw [List.getElem?_range hj]
    by_cases e : i = j
    · subst e; simp [h]
    · rw [if_neg e]; simp [Ne.symm e]
  · rw [List.getElem?_eq_none (by simpa using hj)]
    simp only [List.length_map, List.length_range, h, if_true, Option.map_none]
    rw [if_neg (by omega)]
theorem set_vI {n i : Nat} (g : Nat → Nat) (v : Nat) (h : i < n) : (vI n g).set ((i : Int)).toNat (v : Int) = vI n (upd g i v) := by
  rw [Int.toNat_natCast]
  unfold vI
  rw [map_set _ _ h]
  refine List.map_congr_left fun j _ => ?_
  unfold upd
  split <;> rfl
theorem set_LI {n i : Nat} (f : Nat → List Nat) (v : List Nat) (h : i < n) : (LI n f).set ((i : Int)).toNat (toI v) = LI n (fun j => if j = i then v else f j) := by
  rw [Int.toNat_natCast]
  unfold LI
  rw [map_set _ _ h]
  refine List.map_congr_left fun j _ => ?_
  show _ = toI (if j = i then v else f j)
  split <;> rfl
theorem set_vB {n i : Nat} (g : Nat → Bool) (v : Bool) (h : i < n) : (vB n g).set ((i : Int)).toNat v = vB n (fun j => if j = i then v else g j) := by
  rw [Int.toNat_natCast]
  exact map_set _ _ h
theorem rep_vI (n : Nat) : List.replicate n (0 : Int) = vI n (fun _ => 0) := by
  unfold vI
  rw [List.map_const' , List.length_range]; rfl
theorem rep_LI (n : Nat) : List.replicate n ([] : List Int) = LI n (fun _ => []) := by
  unfold LI
  rw [List.map_const', List.length_range]; rfl
theorem rep_vB (n : Nat) : List.replicate n false = vB n (fun _ => false) := by
  unfold vB
  rw [List.map_const', List.length_range]
theorem rdT_emb (p s : List (Nat × Nat)) (e : Nat × Nat) : rd_T47 (emb (p ++ e :: s)) (p.length : Int) = em e := by
  rw [emb_app, show emb (e :: s) = em e :: emb s from rfl, ← emb_len p]
  exact rdT_app _ _ _
theorem rd_toI (p s : List Nat) (e : Nat) : rd (toI (p ++ e :: s)) (p.length : Int) = e := by
  rw [toI_app, show toI (e :: s) = (e : Int) :: toI s from rfl, ← toI_len p]
  exact rd_app _ _ _
theorem emb_lt (p s : List (Nat × Nat)) (e : Nat × Nat) : ((p.length : Nat) : Int) < ((emb (p ++ e :: s)).length : Int) := by rw [emb_len]; exact len_app p s e
theorem toI_lt (p s : List Nat) (e : Nat) : ((p.length : Nat) : Int) < ((toI (p ++ e :: s)).length : Int) := by rw [toI_len]; exact len_app p s e

theorem bh_snoc (p : List (Nat × Nat)) (e : Nat × Nat) (i : Nat) : bh (p ++ [e]) i = if i = e.1 then bh p e.1 ++ [e.2] else bh p i := by
  unfold bh
  by_cases h : i = e.1
  · subst h; simp
  · rw [if_neg h]; simp [Ne.symm h]
theorem bf_snoc (p : List (Nat × Nat)) (e : Nat × Nat) (i : Nat) : bf (p ++ [e]) i = if i = e.2 then bf p e.2 ++ [e.1] else bf p i := by
  unfold bf
  by_cases h : i = e.2
  · subst h; simp
  · rw [if_neg h]; simp [Ne.symm h]
theorem bh_len (p : List (Nat × Nat)) (i : Nat) : (bh p i).length ≤ p.length := by
  unfold bh; rw [List.length_map]; exact List.length_filter_le _ _
theorem bf_len (p : List (Nat × Nat)) (i : Nat) : (bf p i).length ≤ p.length := by
  unfold bf; rw [List.length_map]; exact List.length_filter_le _ _
theorem lists_go {n : Nat} : ∀ (s p : List (Nat × Nat)), (p ++ s).length ≤ 1000 → (∀ e ∈ p ++ s, e.1 < n ∧ e.2 < n) →
    Ev (fun k => precedence_listsOf.l0 k (emb (p ++ s)) ((emb (p ++ s)).length : Int) (p.length : Int) (LI n (bh p)) (LI n (bf p))) (LI n (bh (p ++ s)), LI n (bf (p ++ s)))
  | [], p, hl, hE => Ev.const1 fun k => by simp only [precedence_listsOf.l0]; rw [if_neg (by rw [emb_len]; simp)]; simp
  | e :: s, p, hl, hE => by
    have hp : p.length ≤ 1000 := by simp at hl; omega
    obtain ⟨he1, he2⟩ := hE e (by simp)
    have ih := lists_go s (p ++ [e]) (by simpa using hl) (by simpa using hE)
    rw [len_snoc, ← app_snoc] at ih
    refine Ev.step (fun k => ?_) ih
    simp only [precedence_listsOf.l0]
    have h1 := bh_len p e.1
    have h2 := bf_len p e.2
    rw [if_pos (emb_lt p s e), if_pos (by omega), if_pos (emb_lt p s e), rdT_emb]
    rw [em_0, em_1, if_pos (by omega), if_pos (by rw [LI_len]; omega), rdL_LI _ he1, rdL_LI _ he2, if_pos (by rw [toI_len]; omega), if_pos (by omega), if_pos (by rw [LI_len]; omega), if_pos (by rw [toI_len]; omega), wr (by omega)]
    rw [show toI (bh p e.1) ++ [(e.2 : Int)] = toI (bh p e.1 ++ [e.2]) by rw [toI_app]; rfl, show toI (bf p e.2) ++ [(e.1 : Int)] = toI (bf p e.2 ++ [e.1]) by rw [toI_app]; rfl, set_LI _ _ he1, set_LI _ _ he2]
    congr 1
    · unfold LI; refine List.map_congr_left fun j _ => ?_; rw [bh_snoc]
    · unfold LI; refine List.map_congr_left fun j _ => ?_; rw [bf_snoc]
theorem lists_ev {n : Nat} {E : List (Nat × Nat)} (h : Val n E) : Ev (fun k => precedence_listsOf.f k n (emb E)) (LI n (bh E), LI n (bf E)) := by
  have := lists_go E [] h.len h.lt
  refine Ev.congr (fun k => ?_) this
  unfold precedence_listsOf.f
  have := h.le
  rw [if_pos (by omega), if_pos (by omega), Int.toNat_natCast, rep_LI]
  rfl

theorem has_go (x : Nat) : ∀ (s p : List Nat), (p ++ s).length ≤ 100000 → Ev (fun k => rf_has.l0 k (toI (p ++ s)) (x : Int) (p.length : Int)) (decide (x ∈ s))
  | [], p, hl => Ev.const1 fun k => by simp only [rf_has.l0]; rw [if_neg (by rw [toI_len]; simp)]; simp
  | e :: s, p, hl => by
    have hp : p.length ≤ 100000 := by simp at hl; omega
    have hst : ∀ k, rf_has.l0 (k + 1) (toI (p ++ e :: s)) (x : Int) (p.length : Int) = if e = x then some true else rf_has.l0 k (toI (p ++ e :: s)) (x : Int) ((p.length : Int) + 1) := fun k => by
      simp only [rf_has.l0]
      rw [if_pos (toI_lt p s e), if_pos (by omega), rd_toI, wr (by omega)]
      by_cases q : e = x
      · rw [if_pos q, if_pos (by omega)]
      · rw [if_neg q, if_neg (by omega)]
    by_cases q : e = x
    · exact Ev.const1 fun k => by rw [hst, if_pos q]; simp [q]
    · have ih := has_go x s (p ++ [e]) (by simpa using hl)
      rw [len_snoc, ← app_snoc] at ih
      refine Ev.step (fun k => by rw [hst, if_neg q]) (Ev.eq ih ?_)
      simp [Ne.symm q]
theorem has_ev (x : Nat) (l : List Nat) (h : l.length ≤ 100000) : Ev (fun k => rf_has.f k (toI l) (x : Int)) (decide (x ∈ l)) := has_go x l [] h
theorem ready_go (m : Int) (out : List Nat) (ho : out.length ≤ 1000) (i : Nat) : ∀ (s p : List (Nat × Nat)), (p ++ s).length ≤ 1000 → Ev (fun k => rf_ready.l0 k (toI out) (i : Int) (p.length : Int) m (emb (p ++ s))) (ready s out i)
  | [], p, hl => Ev.const1 fun k => by simp only [rf_ready.l0]; rw [if_neg (by rw [emb_len]; simp)]; simp [ready]
  | e :: s, p, hl => by
    have hp : p.length ≤ 1000 := by simp at hl; omega
    have ih := ready_go m out ho i s (p ++ [e]) (by simpa using hl)
    rw [len_snoc, ← app_snoc] at ih
    have hr : ready (e :: s) out i = ((decide (e.2 ≠ i) || decide (e.1 ∈ out)) && ready s out i) := by simp [ready]
    by_cases q : e.2 = i
    · have hst : ∀ k, rf_ready.l0 (k + 1) (toI out) (i : Int) (p.length : Int) m (emb (p ++ e :: s)) = (rf_has.f k (toI out) (e.1 : Int)).bind fun t => if t = true then rf_ready.l0 k (toI out) (i : Int) ((p.length : Int) + 1) m (emb (p ++ e :: s)) else some false := fun k => by
        simp only [rf_ready.l0]
        rw [if_pos (emb_lt p s e), if_pos (by omega), rdT_emb, wr (by omega)]
        rw [em_0, em_1, if_pos (by omega)]
      refine Ev.step hst (Ev.bind (f := fun k t => if t = true then rf_ready.l0 k (toI out) (i : Int) ((p.length : Int) + 1) m (emb (p ++ e :: s)) else some false) (has_ev e.1 out (by omega)) ?_)
      by_cases w : e.1 ∈ out
      · simp only [w, decide_true, if_true]
        exact Ev.eq ih (by rw [hr]; simp [w])
      · simp only [w, decide_false, Bool.false_eq_true, if_false]
        exact Ev.const fun k => by rw [hr]; simp [w, q]
    · refine Ev.step (fun k => ?_) (Ev.eq ih (by rw [hr]; simp [q]))
      simp only [rf_ready.l0]
      rw [if_pos (emb_lt p s e), if_pos (by omega), rdT_emb, wr (by omega)]
      rw [em_1, if_neg (by omega)]
theorem ready_ev (m : Int) {out : List Nat} (ho : out.length ≤ 1000) (i : Nat) {E : List (Nat × Nat)} (h : E.length ≤ 1000) : Ev (fun k => rf_ready.f k m (emb E) (toI out) (i : Int)) (ready E out i) := ready_go m out ho i E [] h
theorem rnext_go {n : Nat} {E : List (Nat × Nat)} (h : Val n E) {out : List Nat} (ho : out.length ≤ 1000) (c : Nat) (hc : c ≤ n) (r : List Int)
    (H : ∀ j, (List.range n).find? (free E out) = some j → Ev (fun k => rf_Order.l0 k (toI (out ++ [j])) ((c : Int) + 1) n (emb E)) r)
    (H0 : (List.range n).find? (free E out) = none → Ev (fun k => rf_Order.l0 k (toI out) ((c : Int) + 1) n (emb E)) r) :
    ∀ (m i : Nat), i + m = n → (∀ j, j < i → free E out j = false) → Ev (fun k => rf_Order.l1 k (toI out) (c : Int) (i : Int) n (emb E)) r
  | 0, i, hi, hf => by
    have hn := h.le
    refine Ev.step (fun k => ?_) (H0 ?_)
    · simp only [rf_Order.l1]; rw [if_neg (by omega), wr (by omega)]
    · rw [List.find?_eq_none]; intro j hj; rw [List.mem_range] at hj; rw [hf j (by omega)]; decide
  | m + 1, i, hi, hf => by
    have hn := h.le
    have hst : ∀ k, rf_Order.l1 (k + 1) (toI out) (c : Int) (i : Int) n (emb E) = (rf_has.f k (toI out) (i : Int)).bind fun t342 => (if t342 = true then (rf_Order.l1 k (toI out) (c : Int) ((i + 1 : Nat) : Int) n (emb E)) else ((rf_ready.f k n (emb E) (toI out) (i : Int)).bind fun t343 => (if t343 = true then (rf_Order.l0 k (toI (out ++ [i])) ((c : Int) + 1) n (emb E)) else (rf_Order.l1 k (toI out) (c : Int) ((i + 1 : Nat) : Int) n (emb E))))) := fun k => by
      simp only [rf_Order.l1]
      rw [if_pos (by omega), wr (x := (c : Int) + 1) (by omega), wr (x := (i : Int) + 1) (by omega), if_pos (by rw [toI_len]; omega), toI_app]
      rfl
    refine Ev.step hst ?_
    refine Ev.bind (f := fun k t342 => (if t342 = true then (rf_Order.l1 k (toI out) (c : Int) ((i + 1 : Nat) : Int) n (emb E)) else ((rf_ready.f k n (emb E) (toI out) (i : Int)).bind fun t343 => (if t343 = true then (rf_Order.l0 k (toI (out ++ [i])) ((c : Int) + 1) n (emb E)) else (rf_Order.l1 k (toI out) (c : Int) ((i + 1 : Nat) : Int) n (emb E)))))) (has_ev i out (by omega)) ?_
    have next : free E out i = false → Ev (fun k => rf_Order.l1 k (toI out) (c : Int) ((i + 1 : Nat) : Int) n (emb E)) r := fun hfi => rnext_go h ho c hc r H H0 m (i + 1) (by omega) (fun j hj => by
      by_cases e : j = i
      · rw [e]; exact hfi
      · exact hf j (by omega))
    by_cases w : i ∈ out
    · simp only [w, decide_true, if_true]
      exact next (by simp [free, w])
    · simp only [w, decide_false, Bool.false_eq_true, if_false]
      refine Ev.bind (f := fun k t343 => (if t343 = true then (rf_Order.l0 k (toI (out ++ [i])) ((c : Int) + 1) n (emb E)) else (rf_Order.l1 k (toI out) (c : Int) ((i + 1 : Nat) : Int) n (emb E)))) (ready_ev n ho i h.len) ?_
      by_cases q : ready E out i = true
      · simp only [q, if_true]
        refine H i ?_
        rw [List.find?_eq_some_iff_append]
        refine ⟨by simp [free, w, q], List.range i, (List.range (n - i - 1)).map (i + 1 + ·), ?_, fun a ha => by rw [List.mem_range] at ha; simp [hf a ha]⟩
        rw [show n = i + (1 + (n - i - 1)) by omega, List.range_add, List.range_add]
        simp [Nat.add_assoc]
      · simp only [q, if_false]
        exact next (by simp [free, w, q])
theorem rord_go {n : Nat} {E : List (Nat × Nat)} (h : Val n E) : ∀ (m : Nat) (out : List Nat) (c : Nat), c + m = n → out.length ≤ c → Ev (fun k => rf_Order.l0 k (toI out) (c : Int) n (emb E)) (toI (ord E n m out))
  | 0, out, c, hc, ho => Ev.const1 fun k => by simp only [rf_Order.l0]; rw [if_neg (by omega)]; rfl
  | m + 1, out, c, hc, ho => by
    have hn := h.le
    refine Ev.step (f := fun k => rf_Order.l1 k (toI out) (c : Int) ((0 : Nat) : Int) n (emb E)) (fun k => ?_) ?_
    · simp only [rf_Order.l0]; rw [if_pos (by omega)]; rfl
    · refine rnext_go h (by omega) c (by omega) _ (fun j hj => ?_) (fun hj => ?_) n 0 (by omega) (fun j hj => absurd hj (by omega))
      · have := rord_go h m (out ++ [j]) (c + 1) (by omega) (by simp; omega)
        simp only [ord, next, hj]
        exact this
      · have := rord_go h m out (c + 1) (by omega) (by omega)
        simp only [ord, next, hj]
        refine Ev.eq this ?_
        congr 1
        cases m with
        | zero => rfl
        | succ m => simp only [ord, next, hj]
theorem rOrder_ev {n : Nat} {E : List (Nat × Nat)} (h : Val n E) : Ev (fun k => rf_Order.f k n (emb E)) (toI (order E n)) := rord_go h n [] 0 (by omega) (by simp)
theorem vI_congr {n : Nat} {f g : Nat → Nat} (h : ∀ j, j < n → f j = g j) : vI n f = vI n g := by
  unfold vI
  exact List.map_congr_left fun j hj => by rw [h j (List.mem_range.1 hj)]
theorem vB_congr {n : Nat} {f g : Nat → Bool} (h : ∀ j, j < n → f j = g j) : vB n f = vB n g := by
  unfold vB
  exact List.map_congr_left fun j hj => h j (List.mem_range.1 hj)
theorem find_at {n : Nat} {f : Nat → Bool} {i : Nat} (hi : i < n) (h : f i = true) (hf : ∀ j, j < i → f j = false) : (List.range n).find? f = some i := by
  rw [List.find?_eq_some_iff_append]
  refine ⟨h, List.range i, (List.range (n - i - 1)).map (i + 1 + ·), ?_, fun a ha => by rw [List.mem_range] at ha; simp [hf a ha]⟩
  rw [show n = i + (1 + (n - i - 1)) by omega, List.range_add, List.range_add]
  simp [Nat.add_assoc]
theorem find_none {n : Nat} {f : Nat → Bool} (hf : ∀ j, j < n → f j = false) : (List.range n).find? f = none := by
  rw [List.find?_eq_none]; intro j hj; rw [List.mem_range] at hj; rw [hf j hj]; decide

section
variable {n : Nat} {E : List (Nat × Nat)}
theorem bh_lt (h : Val n E) (i : Nat) : ∀ x ∈ bh E i, x < n := fun x hx => (h.lt _ (mem_bh.1 hx)).2
theorem ord3 (h : Val n E) (out : List Nat) (i : Nat) (pl : List Bool) (c : Nat) (hc : c ≤ n) (r : List Int) (H : Ev (fun k => precedence_order.l1 k (vI n (wt E (out ++ [i]))) (toI (out ++ [i])) pl n ((c : Int) + 1) (LI n (bh E)) (LI n (bf E))) r) :
    ∀ (s p : List Nat), (p ++ s).length ≤ 1000 → (∀ x ∈ s, x < n) → Ev (fun k => precedence_order.l3 k (vI n (fun j => wt E (out ++ [i]) j + s.count j)) (toI (out ++ [i])) pl n c (toI (p ++ s)) ((toI (p ++ s)).length : Int) (p.length : Int) (LI n (bh E)) (LI n (bf E))) r
  | [], p, hl, hs => by
    have hn := h.le
    refine Ev.step (fun k => ?_) H
    simp only [precedence_order.l3]
    rw [if_neg (by rw [toI_len]; simp), wr (by omega)]
    simp
  | e :: s, p, hl, hs => by
    have hp : p.length ≤ 1000 := by simp at hl; omega
    have he := hs e (by simp)
    have ih := ord3 h out i pl c hc r H s (p ++ [e]) (by simpa using hl) (fun x hx => hs x (by simp [hx]))
    rw [len_snoc, ← app_snoc] at ih
    refine Ev.step (fun k => ?_) ih
    have hw : wt E (out ++ [i]) e ≤ E.length := by unfold wt; exact List.length_filter_le _ _
    have hcn : (s.count e) ≤ s.length := List.count_le_length
    have hl2 := h.len
    simp only [precedence_order.l3]
    rw [if_pos (toI_lt p s e), if_pos (by omega), if_pos (toI_lt p s e), rd_toI, if_pos (by omega), if_pos (by rw [vI_len]; omega), rd_vI _ he, wr (x := (p.length : Int) + 1) (by omega)]
    simp only [List.length_append, List.length_cons] at hl
    rw [List.count_cons_self, wr (by omega), show ((wt E (out ++ [i]) e + (s.count e + 1) : Nat) : Int) - 1 = ((wt E (out ++ [i]) e + s.count e : Nat) : Int) by omega, set_vI _ _ he]
    congr 1
    refine vI_congr fun j hj => ?_
    dsimp only [upd]
    by_cases q : j = e
    · rw [if_pos q, q]
    · rw [if_neg q, List.count_cons_of_ne (Ne.symm q)]
theorem ord2 (h : Val n E) (out : List Nat) (c : Nat) (r : List Int)
    (H : ∀ j, (List.range n).find? (free E out) = some j → Ev (fun k => precedence_order.j3 k (vI n (wt E out)) (toI out) (vB n fun x => decide (x ∈ out)) (j : Int) n c (LI n (bh E)) (LI n (bf E))) r)
    (H0 : (List.range n).find? (free E out) = none → Ev (fun k => precedence_order.j3 k (vI n (wt E out)) (toI out) (vB n fun x => decide (x ∈ out)) (-1) n c (LI n (bh E)) (LI n (bf E))) r) :
    ∀ (m i : Nat), i + m = n → (∀ j, j < i → free E out j = false) → Ev (fun k => precedence_order.l2 k (vI n (wt E out)) (toI out) (vB n fun x => decide (x ∈ out)) (-1) n c ((vI n (wt E out)).length : Int) (i : Int) (LI n (bh E)) (LI n (bf E))) r
  | 0, i, hi, hf => by
    refine Ev.step (fun k => ?_) (H0 (find_none fun j hj => hf j (by omega)))
    simp only [precedence_order.l2]; rw [if_neg (by rw [vI_len]; omega)]
  | m + 1, i, hi, hf => by
    have hn := h.le
    have hin : i < n := by omega
    have hst : ∀ k, precedence_order.l2 (k + 1) (vI n (wt E out)) (toI out) (vB n fun x => decide (x ∈ out)) (-1) n c ((vI n (wt E out)).length : Int) (i : Int) (LI n (bh E)) (LI n (bf E)) = if free E out i = true then precedence_order.j3 k (vI n (wt E out)) (toI out) (vB n fun x => decide (x ∈ out)) (i : Int) n c (LI n (bh E)) (LI n (bf E)) else precedence_order.l2 k (vI n (wt E out)) (toI out) (vB n fun x => decide (x ∈ out)) (-1) n c ((vI n (wt E out)).length : Int) ((i + 1 : Nat) : Int) (LI n (bh E)) (LI n (bf E)) := fun k => by
      simp only [precedence_order.l2]
      rw [if_pos (by rw [vI_len]; omega), if_pos (by omega), if_pos (by rw [vB_len]; omega), rdB_vB _ hin, wr (by omega)]
      unfold free
      by_cases q : i ∈ out
      · simp [q]
      · rw [if_neg (by simp [q]), if_pos (by rw [vI_len]; omega), rd_vI _ hin]
        by_cases z : wt E out i = 0
        · have := wt_zero.1 z
          simp [q, z, this]
        · have hr : ready E out i = false := Bool.eq_false_iff.2 fun e => z (wt_zero.2 e)
          have hz : ¬ ((wt E out i : Nat) : Int) = 0 := by omega
          rw [if_neg hz]; simp [q, hr]
    by_cases q : free E out i = true
    · exact Ev.step (fun k => by rw [hst, if_pos q]) (H i (find_at hin q hf))
    · refine Ev.step (fun k => by rw [hst, if_neg q]) (ord2 h out c r H H0 m (i + 1) (by omega) (fun j hj => ?_))
      by_cases e : j = i
      · rw [e]; exact Bool.eq_false_iff.2 q
      · exact hf j (by omega)
theorem ord1 (h : Val n E) : ∀ (m : Nat) (out : List Nat) (c : Nat), c + m = n → out.length ≤ c → Gr.Good E n out → Ev (fun k => precedence_order.l1 k (vI n (wt E out)) (toI out) (vB n fun x => decide (x ∈ out)) n c (LI n (bh E)) (LI n (bf E))) (toI (ord E n m out))
  | 0, out, c, hc, ho, hg => Ev.const1 fun k => by simp only [precedence_order.l1]; rw [if_neg (by omega)]; rfl
  | m + 1, out, c, hc, ho, hg => by
    have hn := h.le
    refine Ev.step (f := fun k => precedence_order.l2 k (vI n (wt E out)) (toI out) (vB n fun x => decide (x ∈ out)) (-1) n c ((vI n (wt E out)).length : Int) ((0 : Nat) : Int) (LI n (bh E)) (LI n (bf E))) (fun k => ?_) ?_
    · simp only [precedence_order.l1]; rw [if_pos (by omega)]; rfl
    · refine ord2 h out c _ (fun i hj => ?_) (fun hj => ?_) n 0 (by omega) (fun j hj => absurd hj (by omega))
      · obtain ⟨hi, him, hir⟩ := next_some (E := E) (n := n) (out := out) (i := i) hj
        have ih := ord1 h m (out ++ [i]) (c + 1) (by omega) (by simp; omega) (good_snoc hg hi him hir)
        have h3 := ord3 h out i (vB n fun x => decide (x ∈ out ++ [i])) c (by omega) (toI (ord E n m (out ++ [i]))) ih (bh E i) [] (by have := bh_len E i; have := h.len; simp; omega) (bh_lt h i)
        have e1 : vI n (fun j => wt E (out ++ [i]) j + (bh E i).count j) = vI n (wt E out) := vI_congr fun j _ => (wt_snoc him j E).symm
        rw [e1] at h3
        simp only [ord, next, hj]
        refine Ev.step (fun k => ?_) h3
        simp only [precedence_order.j3]
        rw [if_neg (by omega), if_pos (by omega), if_pos (by rw [vB_len]; omega), if_pos (by rw [toI_len]; omega), if_pos (by rw [LI_len]; omega), rdL_LI _ hi, set_vB _ _ hi]
        rw [show toI out ++ [(i : Int)] = toI (out ++ [i]) by rw [toI_app]; rfl]
        have e2 : (vB n fun j => if j = i then true else decide (j ∈ out)) = vB n fun x => decide (x ∈ out ++ [i]) := vB_congr fun j _ => by
          by_cases q : j = i <;> simp [q]
        rw [e2]; rfl
      · simp only [ord, next, hj]
        exact Ev.const1 fun k => by simp only [precedence_order.j3]; rw [if_pos (by omega)]
theorem ord0 (h : Val n E) : ∀ (m i : Nat), i + m = n → Ev (fun k => precedence_order.l0 k (vI n (fun j => if j < i then wt E [] j else 0)) n i n (emb E) (LI n (bh E)) (LI n (bf E))) (toI (order E n))
  | 0, i, hi => by
    have hn := h.le
    have := ord1 h n [] 0 (by omega) (by simp) (good_nil E n)
    refine Ev.step (fun k => ?_) this
    simp only [precedence_order.l0]
    rw [if_neg (by omega), if_pos (by omega), if_pos (by omega), Int.toNat_natCast, rep_vB]
    have e1 : vI n (fun j => if j < i then wt E [] j else 0) = vI n (wt E []) := vI_congr fun j hj => by rw [if_pos (by omega)]
    rw [e1]
    have e2 : vB n (fun _ => false) = vB n fun x => decide (x ∈ ([] : List Nat)) := vB_congr fun j _ => by simp
    rw [e2]; rfl
  | m + 1, i, hi => by
    have hn := h.le
    have hin : i < n := by omega
    have ih := ord0 h m (i + 1) (by omega)
    refine Ev.step (fun k => ?_) ih
    simp only [precedence_order.l0]
    rw [if_pos (by omega), if_pos (by omega), if_pos (by rw [LI_len]; omega), if_pos (by rw [vI_len]; omega), rdL_LI _ hin, toI_len, set_vI _ _ hin, wr (by omega)]
    have e1 : vI n (upd (fun j => if j < i then wt E [] j else 0) i (bf E i).length) = vI n (fun j => if j < i + 1 then wt E [] j else 0) := vI_congr fun j hj => by
      dsimp only [upd]
      by_cases q : j = i
      · rw [if_pos q, if_pos (by omega), q, wt_nil]
      · rw [if_neg q]
        by_cases z : j < i
        · rw [if_pos z, if_pos (by omega)]
        · rw [if_neg z, if_neg (by omega)]
    rw [e1]; rfl
theorem order_ev (h : Val n E) : Ev (fun k => precedence_order.f k n (emb E)) (toI (order E n)) := by
  have hn := h.le
  unfold precedence_order.f
  refine Ev.bind (f := fun k (b : List (List Int) × List (List Int)) => if 0 ≤ (n : Int) then (if ((n : Int)).toNat ≤ 35184372088832 then ((some (List.replicate ((n : Int)).toNat 0 : List Int)).bind fun y => precedence_order.l0 k y (y.length : Int) 0 n (emb E) b.1 b.2) else none) else none) (lists_ev h) ?_
  refine Ev.congr (fun k => ?_) (ord0 h n 0 (by omega))
  rw [if_pos (by omega), if_pos (by omega), Int.toNat_natCast]
  simp only [Option.bind_some]
  rw [rep_vI, vI_len]
  rfl
def srt (n : Nat) (E : List (Nat × Nat)) : List Int × Int := if (order E n).length < n then ([], 13) else (toI (order E n), 0)
theorem sorted_ev (h : Val n E) : Ev (fun k => precedence_sorted.f k n (emb E)) (srt n E) := by
  unfold precedence_sorted.f
  refine Ev.bind (f := fun k t => (if t = 0 then ((precedence_order.f k n (emb E)).bind fun t209 => (if (t209.length : Int) < n then (some (([] : List Int), (13 : Int))) else (some (t209, (0 : Int))))) else (some (([] : List Int), t)))) (Check_ev n (emb E) (by rw [emb_len]; exact h.len)) ?_
  simp only [val_chk h, if_true]
  refine Ev.bind (f := fun k (t209 : List Int) => (if (t209.length : Int) < n then (some (([] : List Int), (13 : Int))) else (some (t209, (0 : Int))))) (order_ev h) (Ev.const fun k => ?_)
  unfold srt
  rw [toI_len]
  by_cases q : (order E n).length < n
  · rw [if_pos (by omega), if_pos q]
  · rw [if_neg (by omega), if_neg q]
end
theorem sorted_bad {m : Int} {l : List S47} (hl : l.length ≤ 1000) (h : chk m l ≠ 0) : Ev (fun k => precedence_sorted.f k m l) ([], chk m l) := by
  unfold precedence_sorted.f
  refine Ev.bind (f := fun k t => (if t = 0 then ((precedence_order.f k m l).bind fun t209 => (if (t209.length : Int) < m then (some (([] : List Int), (13 : Int))) else (some (t209, (0 : Int))))) else (some (([] : List Int), t)))) (Check_ev m l hl) ?_
  simp only [if_neg h]
  exact Ev.const fun k => rfl
theorem Order_sorted {m : Int} {l : List S47} {r : List Int × Int} (h : Ev (fun k => precedence_sorted.f k m l) r) : Ev (fun k => precedence_Order.f k m l) r := by
  unfold precedence_Order.f
  exact Ev.bind (f := fun _ (b : List Int × Int) => some (b.1, b.2)) h (Ev.const fun k => rfl)
def isO (n : Nat) (E : List (Nat × Nat)) (l : List Int) : Prop := ∃ q, l = toI q ∧ q.length = n ∧ Gr.Good E n q
theorem toI_inj {a b : List Nat} (h : toI a = toI b) : a = b := by
  induction a generalizing b with
  | nil => cases b with
    | nil => rfl
    | cons x b => simp [toI] at h
  | cons y a ih => cases b with
    | nil => simp [toI] at h
    | cons x b =>
      simp only [toI, List.map_cons, List.cons.injEq] at h
      rw [ih h.2, show y = x by omega]
theorem toI_split {p : List Nat} {x : Int} {s : List Int} : ∀ {q : List Nat}, toI p ++ x :: s = toI q → ∃ (y : Nat) (t : List Nat), q = p ++ y :: t ∧ x = (y : Int) ∧ s = toI t := by
  induction p with
  | nil =>
    intro q h
    cases q with
    | nil => simp [toI] at h
    | cons y t =>
      simp only [toI, List.map_nil, List.nil_append, List.map_cons, List.cons.injEq] at h
      exact ⟨y, t, rfl, h.1, h.2⟩
  | cons a p ih =>
    intro q h
    cases q with
    | nil => simp [toI] at h
    | cons b q =>
      simp only [toI, List.map_cons, List.cons_append, List.cons.injEq] at h
      obtain ⟨y, t, h1, h2, h3⟩ := ih h.2
      exact ⟨y, t, by rw [h1, show b = a by omega]; rfl, h2, h3⟩
def pl (p : List Nat) (j : Nat) : Nat := if j ∈ p then p.idxOf j + 1 else 0
theorem pl_snoc {p : List Nat} {x : Nat} (h : x ∉ p) (j : Nat) : pl (p ++ [x]) j = upd (pl p) x (p.length + 1) j := by
  dsimp only [pl, upd]
  by_cases q : j = x
  · subst q
    rw [if_pos (by simp), if_pos rfl, List.idxOf_append, if_neg h]; simp
  · rw [if_neg q]
    by_cases z : j ∈ p
    · rw [if_pos (by simp [z]), if_pos z, List.idxOf_append, if_pos z]
    · rw [if_neg (by simp [z, q]), if_neg z]
section
variable {n : Nat} {E : List (Nat × Nat)}
theorem isIdx {g : Nat → Nat} (m : Nat) : ∀ (s p : List (Nat × Nat)), (p ++ s).length ≤ 1000 → (∀ e ∈ s, e.1 < m ∧ e.2 < m) → ∃ r, Ev (fun k => slices_IndexFunc_2_int_2_int_by_precedence_Is_1.l0 k (emb (p ++ s)) ((emb (p ++ s)).length : Int) (p.length : Int) (vI m g)) r ∧ decide (r ≥ 0) = s.any fun e => decide (g e.1 ≥ g e.2)
  | [], p, hl, hs => ⟨-1, Ev.const1 fun k => by simp only [slices_IndexFunc_2_int_2_int_by_precedence_Is_1.l0]; rw [if_neg (by rw [emb_len]; simp)], by simp⟩
  | e :: s, p, hl, hs => by
    have hp : p.length ≤ 1000 := by simp at hl; omega
    obtain ⟨h1, h2⟩ := hs e (by simp)
    have hst : ∀ k, slices_IndexFunc_2_int_2_int_by_precedence_Is_1.l0 (k + 1) (emb (p ++ e :: s)) ((emb (p ++ e :: s)).length : Int) (p.length : Int) (vI m g) = if g e.1 ≥ g e.2 then some (p.length : Int) else slices_IndexFunc_2_int_2_int_by_precedence_Is_1.l0 k (emb (p ++ e :: s)) ((emb (p ++ e :: s)).length : Int) ((p.length : Int) + 1) (vI m g) := fun k => by
      simp only [slices_IndexFunc_2_int_2_int_by_precedence_Is_1.l0]
      rw [if_pos (emb_lt p s e), if_pos (by omega), if_pos (emb_lt p s e), rdT_emb, em_0, em_1, wr (by omega)]
      unfold precedence_Is_1.f
      rw [if_pos (by omega), if_pos (by rw [vI_len]; omega), if_pos (by omega), if_pos (by rw [vI_len]; omega), rd_vI _ h1, rd_vI _ h2]
      simp only [Option.bind_some, decide_eq_true_eq]
      by_cases q : g e.1 ≥ g e.2
      · rw [if_pos q, if_pos (by omega)]
      · rw [if_neg q, if_neg (by omega)]
    by_cases q : g e.1 ≥ g e.2
    · exact ⟨p.length, Ev.const1 fun k => by rw [hst, if_pos q], by simp [q]⟩
    · obtain ⟨r, hr, hd⟩ := isIdx m s (p ++ [e]) (by simpa using hl) (fun e he => hs e (by simp [he]))
      rw [len_snoc, ← app_snoc] at hr
      exact ⟨r, Ev.step (fun k => by rw [hst, if_neg q]) hr, by rw [hd]; simp [q]⟩
theorem is_go (h : Val n E) : ∀ (s : List Int) (p : List Nat), p.length + s.length = n → p.Nodup → (∀ x ∈ p, x < n) →
    ∃ b, Ev (fun k => precedence_Is.l0 k (toI p ++ s) ((toI p ++ s).length : Int) (p.length : Int) n (emb E) (vI n (pl p))) b ∧ (b = true ↔ isO n E (toI p ++ s))
  | [], p, hl, hd, hp => by
    have hn := h.le
    obtain ⟨r, hr, hb⟩ := isIdx (g := pl p) n E [] h.len h.lt
    refine ⟨!(E.any fun e => decide (pl p e.1 ≥ pl p e.2)), Ev.step (f := fun k => (slices_ContainsFunc_2_int_2_int_by_precedence_Is_1.f k (emb E) (vI n (pl p))).bind fun t => some (!t)) (fun k => ?_) ?_, ?_⟩
    · simp only [precedence_Is.l0]; rw [if_neg (by simp [toI_len])]
    · refine Ev.bind (a := E.any fun e => decide (pl p e.1 ≥ pl p e.2)) (f := fun _ t => some (!t)) ?_ (Ev.const fun k => rfl)
      unfold slices_ContainsFunc_2_int_2_int_by_precedence_Is_1.f slices_IndexFunc_2_int_2_int_by_precedence_Is_1.f
      refine Ev.bind (a := r) (f := fun _ t => some (decide (t ≥ 0))) hr (Ev.const fun k => ?_)
      rw [hb]
    · have hln : p.length = n := by simpa using hl
      have hcov := Gr.cover n p hd hp (by omega)
      rw [List.append_nil]
      have hi := is_iff h.lt hd hp hln
      constructor
      · intro hb
        refine ⟨p, rfl, hln, hi.2 fun a b hab => ?_⟩
        simp only [Bool.not_eq_true', List.any_eq_false, decide_eq_true_eq] at hb
        have := hb _ hab
        unfold pl at this
        rw [if_pos (hcov _ (h.lt _ hab).1), if_pos (hcov _ (h.lt _ hab).2)] at this
        dsimp only at this
        omega
      · rintro ⟨q, e, hq, hg⟩
        have := toI_inj e
        subst this
        simp only [Bool.not_eq_true', List.any_eq_false, decide_eq_true_eq]
        intro x hx
        have := hi.1 hg x.1 x.2 hx
        unfold pl
        rw [if_pos (hcov _ (h.lt _ hx).1), if_pos (hcov _ (h.lt _ hx).2)]
        omega
  | x :: s, p, hl, hd, hp => by
    have hn := h.le
    simp only [List.length_cons] at hl
    have hlt : (p.length : Int) < ((toI p ++ x :: s).length : Int) := by rw [← toI_len p]; exact len_app _ _ _
    have hrd : rd (toI p ++ x :: s) (p.length : Int) = x := by rw [← toI_len p]; exact rd_app _ _ _
    by_cases h1 : x < 0
    · refine ⟨false, Ev.const1 fun k => ?_, by simp; rintro ⟨q, e, _⟩; obtain ⟨y, t, _, hx, _⟩ := toI_split e; omega⟩
      simp only [precedence_Is.l0]; rw [if_pos hlt, if_pos (by omega), if_pos hlt, hrd, if_pos h1]
    · by_cases h2 : x ≥ n
      · refine ⟨false, Ev.const1 fun k => ?_, by simp; rintro ⟨q, e, _, hg⟩; obtain ⟨y, t, hq, hx, _⟩ := toI_split e; have := hg.2.1 y (by rw [hq]; simp); omega⟩
        simp only [precedence_Is.l0]; rw [if_pos hlt, if_pos (by omega), if_pos hlt, hrd, if_neg h1, if_pos h2]
      · obtain ⟨y, rfl⟩ : ∃ y : Nat, x = y := ⟨x.toNat, by omega⟩
        have hy : y < n := by omega
        have hst : ∀ k, precedence_Is.l0 (k + 1) (toI p ++ (y : Int) :: s) ((toI p ++ (y : Int) :: s).length : Int) (p.length : Int) n (emb E) (vI n (pl p)) = if y ∈ p then some false else precedence_Is.l0 k (toI p ++ (y : Int) :: s) ((toI p ++ (y : Int) :: s).length : Int) ((p.length : Int) + 1) n (emb E) (vI n (pl (p ++ [y]))) := fun k => by
          simp only [precedence_Is.l0]
          rw [if_pos hlt, if_pos (by omega), if_pos hlt, hrd, if_neg h1, if_neg h2, if_pos (by omega), if_pos (by rw [vI_len]; omega), rd_vI _ hy, wr (by omega)]
          by_cases q : y ∈ p
          · rw [if_pos q, if_pos (by unfold pl; rw [if_pos q]; omega)]
          · rw [if_neg q, if_neg (by unfold pl; rw [if_neg q]; omega), show (p.length : Int) + 1 = ((p.length + 1 : Nat) : Int) by omega, set_vI _ _ hy]
            congr 1
            exact vI_congr fun j _ => (pl_snoc q j).symm
        by_cases q : y ∈ p
        · refine ⟨false, Ev.const1 fun k => by rw [hst, if_pos q], by simp; rintro ⟨z, e, _, hg⟩; obtain ⟨w, t, hz, hx, _⟩ := toI_split e; rw [hz] at hg; have := (List.nodup_append.1 hg.1).2.2 y q w (by simp); omega⟩
        · obtain ⟨b, hb, hi⟩ := is_go h s (p ++ [y]) (by simp; omega) (by
            rw [List.nodup_append]
            refine ⟨hd, by simp, fun a ha c hc => ?_⟩
            simp only [List.mem_singleton] at hc
            rw [hc]; exact fun e => q (e ▸ ha)) (fun z hz => by
            rcases List.mem_append.1 hz with hz | hz
            · exact hp z hz
            · simp only [List.mem_singleton] at hz; omega)
          rw [show toI (p ++ [y]) ++ s = toI p ++ (y : Int) :: s by rw [toI_app, List.append_assoc]; rfl] at hb hi
          rw [len_snoc] at hb
          exact ⟨b, Ev.step (fun k => by rw [hst, if_neg q]) hb, hi⟩
theorem Is_ev (h : Val n E) (l : List Int) (hl : l.length ≤ 1000) : ∃ b, Ev (fun k => precedence_Is.f k n (emb E) l) b ∧ (b = true ↔ isO n E l) := by
  have hn := h.le
  unfold precedence_Is.f
  have hc : ∀ (b : Bool), Ev (fun k => precedence_Is.j0 k l ((l.length : Int) != n) n (emb E)) b → Ev (fun k => (precedence_Check.f k n (emb E)).bind fun t354 => (if t354 = 0 then (precedence_Is.j0 k l ((l.length : Int) != n) n (emb E)) else (precedence_Is.j0 k l true n (emb E)))) b := fun b hb => by
    refine Ev.bind (f := fun k t354 => (if t354 = 0 then (precedence_Is.j0 k l ((l.length : Int) != n) n (emb E)) else (precedence_Is.j0 k l true n (emb E)))) (Check_ev n (emb E) (by rw [emb_len]; exact h.len)) ?_
    simp only [val_chk h, if_true]
    exact hb
  by_cases q : l.length = n
  · obtain ⟨b, hb, hi⟩ := is_go h l [] (by simpa using q) List.nodup_nil (by simp)
    refine ⟨b, hc b ?_, by simpa [toI] using hi⟩
    refine Ev.step (fun k => ?_) hb
    have hq : ((l.length : Int) != n) = false := by rw [bne_eq_false_iff_eq]; omega
    rw [hq]
    simp only [precedence_Is.j0, Bool.false_eq_true, if_false]
    rw [if_pos (by omega), if_pos (by omega), Int.toNat_natCast, rep_vI]
    rfl
  · refine ⟨false, hc false ?_, ?_⟩
    · have hq : ((l.length : Int) != n) = true := by rw [bne_iff_ne]; omega
      rw [hq]
      exact Ev.const1 fun k => rfl
    · simp only [Bool.false_eq_true, false_iff]
      rintro ⟨z, e, hz, _⟩
      exact q (by rw [e, toI_len]; exact hz)
theorem Is_bad {m : Int} {l : List S47} (hl : l.length ≤ 1000) (h : chk m l ≠ 0) (x : List Int) : Ev (fun k => precedence_Is.f k m l x) false := by
  unfold precedence_Is.f
  refine Ev.bind (f := fun k t354 => (if t354 = 0 then (precedence_Is.j0 k x ((x.length : Int) != m) m l) else (precedence_Is.j0 k x true m l))) (Check_ev m l hl) ?_
  simp only [if_neg h]
  exact Ev.const1 fun k => rfl
theorem ris_bad {m : Int} {l : List S47} (hl : l.length ≤ 1000) (h : chk m l ≠ 0) (x : List Int) : Ev (fun k => rf_Is.f k m l x) false := by
  unfold rf_Is.f
  refine Ev.bind (f := fun k t => (if t = 0 then (rf_Is.j0 k x ((x.length : Int) != m) m l) else (rf_Is.j0 k x true m l))) (rCheck_ev m l hl) ?_
  simp only [if_neg h]
  exact Ev.const1 fun k => rfl
theorem ris_go (h : Val n E) : ∀ (s : List Int) (p : List Nat), p.length + s.length = n → Gr.Good E n p →
    ∃ b, Ev (fun k => rf_Is.l0 k (toI p ++ s) (p.length : Int) n (emb E)) b ∧ (b = true ↔ isO n E (toI p ++ s))
  | [], p, hl, hg => by
    refine ⟨true, Ev.const1 fun k => ?_, by simp only [true_iff, List.append_nil]; exact ⟨p, rfl, by simpa using hl, hg⟩⟩
    simp only [rf_Is.l0]; rw [if_neg (by simp [toI_len])]
  | x :: s, p, hl, hg => by
    have hn := h.le
    simp only [List.length_cons] at hl
    have hlt : (p.length : Int) < ((toI p ++ x :: s).length : Int) := by rw [← toI_len p]; exact len_app _ _ _
    have hrd : rd (toI p ++ x :: s) (p.length : Int) = x := by rw [← toI_len p]; exact rd_app _ _ _
    have htk : (toI p ++ x :: s).take ((p.length : Int)).toNat = toI p := by rw [Int.toNat_natCast, List.take_left' (by rw [toI_len])]
    by_cases h1 : x < 0
    · refine ⟨false, Ev.const1 fun k => ?_, by simp; rintro ⟨q, e, _⟩; obtain ⟨y, t, _, hx, _⟩ := toI_split e; omega⟩
      simp only [rf_Is.l0]; rw [if_pos hlt, if_pos (by omega), hrd, if_pos h1]
    · by_cases h2 : x ≥ n
      · refine ⟨false, Ev.const1 fun k => ?_, by simp; rintro ⟨q, e, _, hg⟩; obtain ⟨y, t, hq, hx, _⟩ := toI_split e; have := hg.2.1 y (by rw [hq]; simp); omega⟩
        simp only [rf_Is.l0]; rw [if_pos hlt, if_pos (by omega), hrd, if_neg h1, if_pos h2]
      · obtain ⟨y, rfl⟩ : ∃ y : Nat, x = y := ⟨x.toNat, by omega⟩
        have hy : y < n := by omega
        have hst : ∀ k, rf_Is.l0 (k + 1) (toI p ++ (y : Int) :: s) (p.length : Int) n (emb E) = (rf_has.f k (toI p) (y : Int)).bind fun t369 => (if t369 = true then (some false) else ((rf_ready.f k n (emb E) (toI p) (y : Int)).bind fun t372 => (if t372 = true then (rf_Is.l0 k (toI p ++ (y : Int) :: s) ((p.length : Int) + 1) n (emb E)) else (some false)))) := fun k => by
          simp only [rf_Is.l0]
          rw [if_pos hlt, if_pos (by omega), hrd, if_neg h1, if_neg h2, if_pos (by omega), htk, wr (by omega)]
        have hhas := has_ev y p (by omega)
        have hrdy := ready_ev (n : Int) (out := p) (by omega) y h.len
        have step : ∀ b, (if y ∈ p then b = false else if ready E p y = true then Ev (fun k => rf_Is.l0 k (toI p ++ (y : Int) :: s) ((p.length : Int) + 1) n (emb E)) b else b = false) → Ev (fun k => rf_Is.l0 k (toI p ++ (y : Int) :: s) (p.length : Int) n (emb E)) b := fun b hb => by
          refine Ev.step hst (Ev.bind (f := fun k t369 => (if t369 = true then (some false) else ((rf_ready.f k n (emb E) (toI p) (y : Int)).bind fun t372 => (if t372 = true then (rf_Is.l0 k (toI p ++ (y : Int) :: s) ((p.length : Int) + 1) n (emb E)) else (some false))))) hhas ?_)
          by_cases q : y ∈ p
          · rw [if_pos q] at hb; subst hb
            simp only [q, decide_true, if_true]
            exact Ev.const fun k => rfl
          · rw [if_neg q] at hb
            simp only [q, decide_false, Bool.false_eq_true, if_false]
            refine Ev.bind (f := fun k t372 => (if t372 = true then (rf_Is.l0 k (toI p ++ (y : Int) :: s) ((p.length : Int) + 1) n (emb E)) else (some false))) hrdy ?_
            by_cases w : ready E p y = true
            · rw [if_pos w] at hb
              simp only [w, if_true]; exact hb
            · rw [if_neg w] at hb; subst hb
              simp only [w, Bool.false_eq_true, if_false]; exact Ev.const fun k => rfl
        by_cases q : y ∈ p
        · refine ⟨false, step false (by rw [if_pos q]), by simp; rintro ⟨z, e, _, hg⟩; obtain ⟨w, t, hz, hx, _⟩ := toI_split e; rw [hz] at hg; have := (List.nodup_append.1 hg.1).2.2 y q w (by simp); omega⟩
        · by_cases w : ready E p y = true
          · obtain ⟨b, hb, hi⟩ := ris_go h s (p ++ [y]) (by simp; omega) (good_snoc hg hy q (ready_iff.1 w))
            rw [show toI (p ++ [y]) ++ s = toI p ++ (y : Int) :: s by rw [toI_app, List.append_assoc]; rfl] at hb hi
            rw [len_snoc] at hb
            exact ⟨b, step b (by rw [if_neg q, if_pos w]; exact hb), hi⟩
          · refine ⟨false, step false (by rw [if_neg q, if_neg w]), by simp; rintro ⟨z, e, _, hg⟩; obtain ⟨v, t, hz, hx, _⟩ := toI_split e; exact w (ready_iff.2 fun a ha => hg.2.2 p v t hz a (by rw [show v = y by omega]; exact ha))⟩
theorem rIs_ev (h : Val n E) (l : List Int) (hl : l.length ≤ 1000) : ∃ b, Ev (fun k => rf_Is.f k n (emb E) l) b ∧ (b = true ↔ isO n E l) := by
  have hn := h.le
  unfold rf_Is.f
  have hc : ∀ (b : Bool), Ev (fun k => rf_Is.j0 k l ((l.length : Int) != n) n (emb E)) b → Ev (fun k => (rf_Check.f k n (emb E)).bind fun t => (if t = 0 then (rf_Is.j0 k l ((l.length : Int) != n) n (emb E)) else (rf_Is.j0 k l true n (emb E)))) b := fun b hb => by
    refine Ev.bind (f := fun k t => (if t = 0 then (rf_Is.j0 k l ((l.length : Int) != n) n (emb E)) else (rf_Is.j0 k l true n (emb E)))) (rCheck_ev n (emb E) (by rw [emb_len]; exact h.len)) ?_
    simp only [val_chk h, if_true]
    exact hb
  by_cases q : l.length = n
  · obtain ⟨b, hb, hi⟩ := ris_go h l [] (by simpa using q) (good_nil E n)
    refine ⟨b, hc b ?_, by simpa [toI] using hi⟩
    refine Ev.step (fun k => ?_) hb
    have hq : ((l.length : Int) != n) = false := by rw [bne_eq_false_iff_eq]; omega
    rw [hq]
    rfl
  · refine ⟨false, hc false ?_, ?_⟩
    · have hq : ((l.length : Int) != n) = true := by rw [bne_iff_ne]; omega
      rw [hq]
      exact Ev.const1 fun k => rfl
    · simp only [Bool.false_eq_true, false_iff]
      rintro ⟨z, e, hz, _⟩
      exact q (by rw [e, toI_len]; exact hz)
end
theorem same_go : ∀ (s t p q : List Int), p.length = q.length → s.length = t.length → (p ++ s).length ≤ 1000 → Ev (fun k => rf_SameInts.l0 k (p ++ s) (q ++ t) (p.length : Int)) (decide (s = t))
  | [], [], p, q, h1, h2, hl => Ev.const1 fun k => by simp only [rf_SameInts.l0]; rw [if_neg (by simp)]; simp
  | x :: s, y :: t, p, q, h1, h2, hl => by
    have hp : p.length ≤ 1000 := by simp at hl; omega
    have hst : ∀ k, rf_SameInts.l0 (k + 1) (p ++ x :: s) (q ++ y :: t) (p.length : Int) = if x = y then rf_SameInts.l0 k (p ++ x :: s) (q ++ y :: t) ((p.length : Int) + 1) else some false := fun k => by
      simp only [rf_SameInts.l0]
      rw [if_pos (len_app p s x), if_pos (by omega), rd_app, h1, if_pos (len_app q t y), rd_app, ← h1, wr (by omega)]
    by_cases e : x = y
    · have ih := same_go s t (p ++ [x]) (q ++ [y]) (by simp [h1]) (by simpa using h2) (by simpa using hl)
      rw [len_snoc, ← app_snoc, ← app_snoc] at ih
      exact Ev.step (fun k => by rw [hst, if_pos e]) (Ev.eq ih (by simp [e]))
    · exact Ev.const1 fun k => by rw [hst, if_neg e]; simp [e]
theorem Same_ev (a b : List Int) (h : a.length ≤ 1000) : Ev (fun k => rf_SameInts.f k a b) (decide (a = b)) := by
  unfold rf_SameInts.f
  by_cases q : a.length = b.length
  · refine Ev.congr (fun k => by rw [if_pos (by omega)]) ?_
    simpa using same_go a b [] [] rfl q h
  · refine Ev.const fun k => ?_
    rw [if_neg (by omega)]
    have : a ≠ b := fun e => q (by rw [e])
    simp [this]
theorem awake60 : lw_awake.f 60 = some true := by decide +kernel
theorem awake_ev : Ev (fun k => lw_awake.f k) true := Ev.of (fun k => lw_awake.mono k) awake60
theorem few_cases (n : Int) (l : List S47) : lw_few.f n l = some false ∨ (lw_few.f n l = some true ∧ l.length ≤ 60 ∧ (n ≤ 12 ∨ n > 256)) := by
  unfold lw_few.f
  by_cases h : n ≤ 12
  · rw [if_pos h]
    by_cases q : (l.length : Int) ≤ 60
    · exact .inr ⟨by simp [q], by omega, .inl h⟩
    · exact .inl (by simp [q])
  · rw [if_neg h]
    by_cases h2 : n > 256
    · rw [if_pos h2]
      by_cases q : (l.length : Int) ≤ 60
      · exact .inr ⟨by simp [q], by omega, .inr h2⟩
      · exact .inl (by simp [q])
    · exact .inl (by rw [if_neg h2])
theorem awk {α : Type} {g : Nat → Bool → Option α} {r : α} (h : Ev (fun k => g k true) r) : Ev (fun k => (lw_awake.f k).bind fun t => g k t) r := Ev.bind (f := fun k t => g k t) awake_ev h
end Go.Proofs.Ytecbmcheojolnaa.XA
