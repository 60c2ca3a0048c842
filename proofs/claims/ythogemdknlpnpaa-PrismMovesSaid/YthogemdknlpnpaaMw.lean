import Derived.Test.YthogemdknlpnpaaXAx0
import Derived.Test.YthogemdknlpnpaaXAx4
import Derived.Test.YthogemdknlpnpaaXAx6
import Derived.Test.YthogemdknlpnpaaXAx10
import Derived.Test.YthogemdknlpnpaaXAx19
import Derived.Test.YthogemdknlpnpaaXAx20
import Derived.Test.YthogemdknlpnpaaXAx21
import Derived.Test.YthogemdknlpnpaaXAx22
import Derived.Test.YthogemdknlpnpaaXAx26
import Derived.Test.YthogemdknlpnpaaXAx38
import Derived.Test.YthogemdknlpnpaaXAx39
import Derived.Test.YthogemdknlpnpaaXAx41
import Derived.Test.YthogemdknlpnpaaXAx42
import Derived.Test.YthogemdknlpnpaaXAx43
import Derived.Test.YthogemdknlpnpaaHa
import Derived.Test.YthogemdknlpnpaaHb
import Derived.Test.YthogemdknlpnpaaMg
namespace Go.Proofs.Ythogemdknlpnpaa.Pure
open Go.RowKit Go.Proofs.Ythogemdknlpnpaa.Opens Go.Proofs.Ythogemdknlpnpaa.XA Go.Proofs.YthogemdknlpnpaaW.PrintWords Go.Proofs.YthogemdknlpnpaaW.PrintLast Go.Proofs.Ythogemdknlpnpaa.Geo
set_option linter.unusedVariables false
set_option linter.unusedSimpArgs false
set_option linter.unusedSimpArgs false
instance : DecidableEq S60 := fun a b => if h : a.f0 = b.f0 ∧ a.f1 = b.f1 then isTrue (by obtain ⟨a0, a1⟩ := a; obtain ⟨b0, b1⟩ := b; simp only at h; rw [h.1, h.2]) else isFalse (fun e => h (by rw [e]; exact ⟨rfl, rfl⟩))
theorem wr {x : Int} (h : -9223372036854775808 ≤ x ∧ x ≤ 9223372036854775807) : wrap64 x = x := by unfold wrap64; omega
def pt (l : List S60) (j : Nat) : Int × Int := ((rd_T60 l ((j % l.length : Nat) : Int)).f0, (rd_T60 l ((j % l.length : Nat) : Int)).f1)
theorem pt_per (l : List S60) : Per (pt l) l.length := fun j => by simp only [pt, Nat.add_mod_right]
def Okp (a : Int × Int) : Prop := (-1000000 ≤ a.1 ∧ a.1 ≤ 1000000) ∧ (-1000000 ≤ a.2 ∧ a.2 ≤ 1000000)
theorem mulb {x y B : Int} (h1 : -B ≤ x ∧ x ≤ B) (h2 : -B ≤ y ∧ y ≤ B) : -(B * B) ≤ x * y ∧ x * y ≤ B * B := by
  have hB : 0 ≤ B := by omega
  have a := Int.mul_nonneg (show 0 ≤ B - x by omega) (show 0 ≤ B + y by omega)
  have b := Int.mul_nonneg (show 0 ≤ B + x by omega) (show 0 ≤ B - y by omega)
  have c := Int.mul_nonneg (show 0 ≤ B - x by omega) (show 0 ≤ B - y by omega)
  have d := Int.mul_nonneg (show 0 ≤ B + x by omega) (show 0 ≤ B + y by omega)
  simp only [Int.sub_mul, Int.mul_sub, Int.add_mul, Int.mul_add] at a b c d
  have e : x * B = B * x := Int.mul_comm _ _
  omega
theorem cross_f {a b c : Int × Int} (ha : Okp a) (hb : Okp b) (hc : Okp c) : prism_cross.f a.1 a.2 b.1 b.2 c.1 c.2 = some (cr3 a b c) := by
  obtain ⟨⟨a1, a2⟩, a3, a4⟩ := ha
  obtain ⟨⟨b1, b2⟩, b3, b4⟩ := hb
  obtain ⟨⟨c1, c2⟩, c3, c4⟩ := hc
  have m1 := mulb (B := 2000000) (x := b.1 - a.1) (y := c.2 - a.2) (by omega) (by omega)
  have m2 := mulb (B := 2000000) (x := b.2 - a.2) (y := c.1 - a.1) (by omega) (by omega)
  unfold prism_cross.f cr3
  rw [wr (x := b.1 - a.1) (by omega), wr (x := c.2 - a.2) (by omega), wr (x := b.2 - a.2) (by omega), wr (x := c.1 - a.1) (by omega)]
  rw [wr (x := (b.1 - a.1) * (c.2 - a.2)) (by omega), wr (x := (b.2 - a.2) * (c.1 - a.1)) (by omega), wr (by omega)]
theorem upper_f (a b : Int × Int) : prism_upper.f a.1 a.2 b.1 b.2 = some (decide (lt2 a b)) := by
  unfold prism_upper.f
  by_cases h : b.2 > a.2
  · rw [if_pos h, decide_eq_true (show lt2 a b from .inl h)]
  · rw [if_neg h]
    by_cases h2 : b.2 = a.2
    · rw [if_pos h2]
      congr 1
      by_cases h3 : b.1 > a.1
      · rw [decide_eq_true h3, decide_eq_true (show lt2 a b from .inr ⟨h2.symm, h3⟩)]
      · rw [decide_eq_false h3, decide_eq_false (show ¬ lt2 a b by unfold lt2; omega)]
    · rw [if_neg h2, decide_eq_false (show ¬ lt2 a b by unfold lt2; omega)]
theorem idx (j d n : Nat) (hj : j < 1000) (hd : d ≤ 2) : (IntKind.i64.wrap ((j : Int) + d)).tmod (n : Int) = (((j + d) % n : Nat) : Int) := by
  rw [IntKind.wrap_i64, show ((j : Int) + d + 9223372036854775808) % 18446744073709551616 - 9223372036854775808 = ((j + d : Nat) : Int) by omega]
  rfl
theorem edge_1 {l : List S60} {j : Nat} (hj : j < l.length) : ((edge_at l j).2.1.f0, (edge_at l j).2.1.f1) = pt l j := by
  simp only [edge_at, pt, Nat.mod_eq_of_lt hj]
theorem edge_2 {l : List S60} {j : Nat} (hj : j < 1000) : ((edge_at l j).2.2.f0, (edge_at l j).2.2.f1) = pt l (j + 1) := by
  have := idx j 1 l.length hj (by omega)
  simp only [edge_at, pt]
  rw [show (j : Int) + 1 = (j : Int) + ((1 : Nat) : Int) by rfl, this]
theorem step_f {l : List S60} {j : Nat} (hj : j < l.length) (hn : l.length < 1000) (ok : ∀ j, Okp (pt l j)) (t : Int) :
    cvx_step l (edge_at l j) t = if cr3 (pt l j) (pt l (j + 1)) (pt l (j + 2)) ≤ 0 then none else if (decide (lt2 (pt l j) (pt l (j + 1))) = false ∧ decide (lt2 (pt l (j + 1)) (pt l (j + 2))) = true) then some (wrap64 (t + 1)) else some t := by
  have e1 := edge_1 hj
  have e2 := edge_2 (l := l) (j := j) (by omega)
  have e3 : ((rd_T60 l ((IntKind.i64.wrap (((edge_at l j).1.val : Int) + 2)).tmod (l.length : Int))).f0, (rd_T60 l ((IntKind.i64.wrap (((edge_at l j).1.val : Int) + 2)).tmod (l.length : Int))).f1) = pt l (j + 2) := by
    have := idx j 2 l.length (by omega) (by omega)
    simp only [edge_at, pt, Nat.mod_eq_of_lt (show j < 1000 by omega)]
    rw [show (j : Int) + 2 = (j : Int) + ((2 : Nat) : Int) by rfl, this]
  have c := cross_f (ok j) (ok (j + 1)) (ok (j + 2))
  have u := upper_f (pt l j) (pt l (j + 1))
  have v := upper_f (pt l (j + 1)) (pt l (j + 2))
  rw [← e1, ← e2, ← e3] at c
  rw [← e1, ← e2] at u
  rw [← e2, ← e3] at v
  rw [← e1, ← e2, ← e3]
  simp only [cvx_step, c, u, v]
instance (P : Nat → Int × Int) (i : Nat) : Decidable (Sw P i) := inferInstanceAs (Decidable (_ ∧ _))
def cnt (P : Nat → Int × Int) : Nat → Nat → Int
  | _, 0 => 0
  | k, m + 1 => (if Sw P k then 1 else 0) + cnt P (k + 1) m
theorem cnt_bd (P : Nat → Int × Int) : ∀ m k, 0 ≤ cnt P k m ∧ cnt P k m ≤ m
  | 0, _ => by simp [cnt]
  | m + 1, k => by
    have := cnt_bd P m (k + 1)
    unfold cnt
    split <;> omega
theorem cvx_go {l : List S60} (hn : l.length < 1000) (ok : ∀ j, Okp (pt l j)) : ∀ (m k : Nat) (t : Int), k + m = l.length → 0 ≤ t → t ≤ k →
    (cvx l ((List.range' k m).map (edge_at l)) t = true ↔ (∀ j, k ≤ j → j < l.length → 0 < cr3 (pt l j) (pt l (j + 1)) (pt l (j + 2))) ∧ t + cnt (pt l) k m = 1)
  | 0, k, t, h, h0, h1 => by
    simp only [List.range'_zero, List.map_nil, cvx, cnt, decide_eq_true_eq]
    constructor
    · intro e; exact ⟨fun j a b => absurd a (by omega), by omega⟩
    · intro e; omega
  | m + 1, k, t, h, h0, h1 => by
    simp only [List.range'_succ, List.map_cons, cvx]
    rw [step_f (show k < l.length by omega) hn ok]
    by_cases q : cr3 (pt l k) (pt l (k + 1)) (pt l (k + 2)) ≤ 0
    · rw [if_pos q]
      simp only [Bool.false_eq_true, false_iff]
      rintro ⟨a, _⟩
      have := a k (Nat.le_refl _) (by omega)
      omega
    · rw [if_neg q]
      have all : (∀ j, k ≤ j → j < l.length → 0 < cr3 (pt l j) (pt l (j + 1)) (pt l (j + 2))) ↔ (∀ j, k + 1 ≤ j → j < l.length → 0 < cr3 (pt l j) (pt l (j + 1)) (pt l (j + 2))) := by
        constructor
        · intro a j b c; exact a j (by omega) c
        · intro a j b c
          by_cases e : j = k
          · subst e; omega
          · exact a j (by omega) c
      by_cases s : Sw (pt l) k
      · rw [if_pos ⟨decide_eq_false s.1, decide_eq_true s.2⟩, wr (by omega)]
        simp only []
        rw [cvx_go hn ok m (k + 1) (t + 1) (by omega) (by omega) (by omega), all]
        simp only [cnt, if_pos s]
        rw [show t + 1 + cnt (pt l) (k + 1) m = t + (1 + cnt (pt l) (k + 1) m) by omega]
      · rw [if_neg (fun e => s ⟨of_decide_eq_false e.1, of_decide_eq_true e.2⟩)]
        simp only []
        rw [cvx_go hn ok m (k + 1) t (by omega) h0 (by omega), all]
        simp only [cnt, if_neg s]
        rw [show t + cnt (pt l) (k + 1) m = t + (0 + cnt (pt l) (k + 1) m) by omega]
theorem cnt_zero (P : Nat → Int × Int) : ∀ m k, cnt P k m = 0 → ∀ i, k ≤ i → i < k + m → ¬ Sw P i
  | 0, k, _, i, a, b => absurd a (by omega)
  | m + 1, k, h, i, a, b => by
    have bd := cnt_bd P m (k + 1)
    unfold cnt at h
    by_cases s : Sw P k
    · rw [if_pos s] at h; omega
    · rw [if_neg s] at h
      by_cases e : i = k
      · subst e; exact s
      · exact cnt_zero P m (k + 1) (by omega) i (by omega) (by omega)
theorem cnt_one (P : Nat → Int × Int) : ∀ m k, cnt P k m = 1 ↔ (∃ s, (k ≤ s ∧ s < k + m ∧ Sw P s) ∧ ∀ i, k ≤ i → i < k + m → Sw P i → i = s)
  | 0, k => by
    simp only [cnt]
    constructor
    · intro h; omega
    · rintro ⟨s, ⟨a, b, _⟩, _⟩; omega
  | m + 1, k => by
    have bd := cnt_bd P m (k + 1)
    unfold cnt
    by_cases s : Sw P k
    · rw [if_pos s]
      constructor
      · intro h
        exact ⟨k, ⟨Nat.le_refl _, by omega, s⟩, fun i a b c => Classical.byContradiction fun e => cnt_zero P m (k + 1) (by omega) i (by omega) (by omega) c⟩
      · rintro ⟨s', ⟨a, b, c⟩, u⟩
        have e := u k (Nat.le_refl _) (by omega) s
        subst e
        have : cnt P (k + 1) m = 0 := by
          have : ∀ m j, (∀ i, j ≤ i → i < j + m → ¬ Sw P i) → cnt P j m = 0 := by
            intro m
            induction m with
            | zero => intro j _; rfl
            | succ m ih =>
              intro j hj
              unfold cnt
              rw [if_neg (hj j (Nat.le_refl _) (by omega)), ih (j + 1) (fun i p q => hj i (by omega) (by omega))]
              rfl
          exact this m (k + 1) (fun i p q r => by have := u i (by omega) (by omega) r; omega)
        omega
    · rw [if_neg s, Int.zero_add, cnt_one P m (k + 1)]
      constructor
      · rintro ⟨s', ⟨a, b, c⟩, u⟩
        exact ⟨s', ⟨by omega, by omega, c⟩, fun i p q r => by
          by_cases e : i = k
          · subst e; exact absurd r s
          · exact u i (by omega) (by omega) r⟩
      · rintro ⟨s', ⟨a, b, c⟩, u⟩
        have : s' ≠ k := fun e => s (by rw [← e]; exact c)
        exact ⟨s', ⟨by omega, by omega, c⟩, fun i p q r => u i (by omega) (by omega) r⟩
theorem pt_mod (l : List S60) (j d : Nat) : pt l (j % l.length + d) = pt l (j + d) := by
  simp only [pt, Nat.mod_add_mod]
theorem sw_mod (l : List S60) (j : Nat) : Sw (pt l) (j % l.length) ↔ Sw (pt l) j := by
  have h0 := pt_mod l j 0
  simp only [Nat.add_zero] at h0
  simp only [Sw, pt_mod, h0]
theorem convex_iff {l : List S60} (h3 : 3 ≤ l.length) (hn : l.length < 1000) (ok : ∀ j, Okp (pt l j)) : cvx l (edge_upto l l.length) 0 = true ↔ Glob (pt l) l.length := by
  have e : edge_upto l l.length = (List.range' 0 l.length).map (edge_at l) := by simp only [edge_upto, List.range_eq_range']
  rw [e, cvx_go hn ok l.length 0 0 (by omega) (by omega) (by omega), Int.zero_add, cnt_one]
  constructor
  · rintro ⟨hl, s, ⟨_, s2, s3⟩, hu⟩
    have hl' : ∀ i, 0 < cr3 (pt l i) (pt l (i + 1)) (pt l (i + 2)) := fun i => by
      have := hl (i % l.length) (Nat.zero_le _) (Nat.mod_lt _ (by omega))
      have h0 := pt_mod l i 0
      simp only [Nat.add_zero] at h0
      rwa [pt_mod, pt_mod, h0] at this
    refine glob_of h3 (pt_per l) hl' ⟨s, by omega, s3⟩ (fun i j hi hj h1 h2 => ?_)
    have a := hu (i % l.length) (Nat.zero_le _) (by have := Nat.mod_lt i (show 0 < l.length by omega); omega) ((sw_mod l i).2 hi)
    have b := hu (j % l.length) (Nat.zero_le _) (by have := Nat.mod_lt j (show 0 < l.length by omega); omega) ((sw_mod l j).2 hj)
    have ei := Nat.div_add_mod i l.length
    have ej := Nat.div_add_mod j l.length
    by_cases q : i / l.length = j / l.length
    · rw [q, a] at ei; rw [b] at ej; omega
    · exfalso
      have : i / l.length < j / l.length := Nat.lt_of_le_of_ne (Nat.div_le_div_right h1) q
      have := Nat.mul_le_mul_left l.length (show i / l.length + 1 ≤ j / l.length by omega)
      rw [Nat.mul_add] at this
      omega
  · intro g
    refine ⟨fun j _ _ => g j 2 (by omega) (by omega), ?_⟩
    obtain ⟨s, s1, s2⟩ := sw_ex h3 (pt_per l) g
    refine ⟨s, ⟨Nat.zero_le _, by omega, s2⟩, fun i _ h2 hi => ?_⟩
    rcases Nat.le_total i s with q | q
    · exact sw_one h3 (pt_per l) g hi s2 q (by omega)
    · exact (sw_one h3 (pt_per l) g s2 hi q (by omega)).symm
def okn (x : Int) : Bool := decide (-1000000 ≤ x ∧ x ≤ 1000000)
theorem far_f (x : Int) : prism_far.f x = some (!okn x) := by
  unfold prism_far.f okn
  by_cases h : x < -1000000
  · rw [if_pos h, decide_eq_false (by omega)]; rfl
  · rw [if_neg h]
    by_cases h2 : x > 1000000
    · rw [decide_eq_true h2, decide_eq_false (by omega)]; rfl
    · rw [decide_eq_false h2, decide_eq_true (by omega)]; rfl
theorem near_f (x : Int) : gangsawref08_near.f x = some (okn x) := by
  unfold gangsawref08_near.f okn
  by_cases h : x ≥ -1000000
  · simp [h]
  · simp [h]
theorem rcross_f {a b c : Int × Int} (ha : Okp a) (hb : Okp b) (hc : Okp c) : gangsawref08_Cross.f a.1 a.2 b.1 b.2 c.1 c.2 = some (cr3 a b c) := cross_f ha hb hc
theorem pt_rd {l : List S60} {j : Nat} (h : j < l.length) : pt l j = ((rd_T60 l (j : Int)).f0, (rd_T60 l (j : Int)).f1) := by
  simp only [pt, Nat.mod_eq_of_lt h]
theorem rc1 {l : List S60} (hn : l.length < 1000) (ok : ∀ j, Okp (pt l j)) {i c : Nat} (hi : i < l.length) (hc : c < l.length) : ∀ (d k j : Nat), j + d = l.length →
    (((∀ m, j ≤ m → m < l.length → m ≠ i → m ≠ c → 0 < cr3 (pt l i) (pt l c) (pt l m)) → gangsawref08_convex.l1 (d + 1 + k) l (l.length : Int) (i : Int) (c : Int) (j : Int) = gangsawref08_convex.l0 k l (l.length : Int) ((i : Int) + 1)) ∧
     ((∃ m, j ≤ m ∧ m < l.length ∧ m ≠ i ∧ m ≠ c ∧ cr3 (pt l i) (pt l c) (pt l m) ≤ 0) → gangsawref08_convex.l1 (d + 1 + k) l (l.length : Int) (i : Int) (c : Int) (j : Int) = some false))
  | 0, k, j, h => by
    rw [show 0 + 1 + k = k + 1 by omega]
    unfold gangsawref08_convex.l1
    rw [if_neg (by omega), wr (by omega)]
    exact ⟨fun _ => rfl, fun ⟨m, a, b, _⟩ => absurd a (by omega)⟩
  | d + 1, k, j, h => by
    have ih := rc1 hn ok hi hc d k (j + 1) (by omega)
    rw [show d + 1 + 1 + k = (d + 1 + k) + 1 by omega]
    unfold gangsawref08_convex.l1
    rw [if_pos (by omega), wr (x := (j : Int) + 1) (by omega)]
    rw [show ((j + 1 : Nat) : Int) = (j : Int) + 1 by omega] at ih
    by_cases e1 : j = i
    · subst e1
      rw [if_pos rfl]
      exact ⟨fun a => ih.1 (fun m p q r s => a m (by omega) q r s), fun ⟨m, p, q, r, s, u⟩ => ih.2 ⟨m, by omega, q, r, s, u⟩⟩
    · rw [if_neg (by omega)]
      by_cases e2 : j = c
      · subst e2
        rw [if_pos rfl]
        exact ⟨fun a => ih.1 (fun m p q r s => a m (by omega) q r s), fun ⟨m, p, q, r, s, u⟩ => ih.2 ⟨m, by omega, q, r, s, u⟩⟩
      · rw [if_neg (by omega), if_pos (by omega), if_pos (by omega), if_pos (by omega), if_pos (by omega), if_pos (by omega), if_pos (by omega)]
        have cf := rcross_f (ok i) (ok c) (ok j)
        rw [pt_rd hi, pt_rd hc, pt_rd (show j < l.length by omega)] at cf
        simp only [] at cf
        rw [cf, Option.bind_some, ← pt_rd hi, ← pt_rd hc, ← pt_rd (show j < l.length by omega)]
        by_cases q : cr3 (pt l i) (pt l c) (pt l j) ≤ 0
        · rw [if_pos q]
          exact ⟨fun a => absurd (a j (Nat.le_refl _) (by omega) e1 e2) (by omega), fun _ => rfl⟩
        · rw [if_neg q]
          refine ⟨fun a => ih.1 (fun m p q r s => a m (by omega) q r s), fun ⟨m, p, q', r, s, u⟩ => ih.2 ⟨m, ?_, q', r, s, u⟩⟩
          have : m ≠ j := fun e => q (by rw [← e]; exact u)
          omega
theorem rc0 {l : List S60} (h0 : 0 < l.length) (hn : l.length < 1000) (ok : ∀ j, Okp (pt l j)) : ∀ (d k i : Nat), i + d = l.length →
    (((∀ e, i ≤ e → e < l.length → ∀ m, m < l.length → m ≠ e → m ≠ (e + 1) % l.length → 0 < cr3 (pt l e) (pt l ((e + 1) % l.length)) (pt l m)) → gangsawref08_convex.l0 (d * (l.length + 2) + 1 + k) l (l.length : Int) (i : Int) = some true) ∧
     ((∃ e, i ≤ e ∧ e < l.length ∧ ∃ m, m < l.length ∧ m ≠ e ∧ m ≠ (e + 1) % l.length ∧ cr3 (pt l e) (pt l ((e + 1) % l.length)) (pt l m) ≤ 0) → gangsawref08_convex.l0 (d * (l.length + 2) + 1 + k) l (l.length : Int) (i : Int) = some false))
  | 0, k, i, h => by
    rw [show 0 * (l.length + 2) + 1 + k = k + 1 by omega]
    unfold gangsawref08_convex.l0
    rw [if_neg (by omega)]
    exact ⟨fun _ => rfl, fun ⟨e, a, b, _⟩ => absurd a (by omega)⟩
  | d + 1, k, i, h => by
    have ih := rc0 h0 hn ok d k (i + 1) (by omega)
    rw [show (d + 1) * (l.length + 2) + 1 + k = (l.length + 1 + (d * (l.length + 2) + 1 + k)) + 1 by rw [Nat.add_mul]; omega]
    unfold gangsawref08_convex.l0
    rw [if_pos (by omega), if_neg (by omega), wr (x := (i : Int) + 1) (by omega)]
    rw [show Int.tmod ((i : Int) + 1) (l.length : Int) = (((i + 1) % l.length : Nat) : Int) from rfl]
    have r := rc1 hn ok (i := i) (c := (i + 1) % l.length) (by omega) (Nat.mod_lt _ h0) l.length (d * (l.length + 2) + 1 + k) 0 (by omega)
    rw [show ((i + 1 : Nat) : Int) = (i : Int) + 1 by omega] at ih
    by_cases q : ∃ m, 0 ≤ m ∧ m < l.length ∧ m ≠ i ∧ m ≠ (i + 1) % l.length ∧ cr3 (pt l i) (pt l ((i + 1) % l.length)) (pt l m) ≤ 0
    · refine ⟨fun a => ?_, fun _ => r.2 q⟩
      obtain ⟨m, _, m1, m2, m3, m4⟩ := q
      exact absurd (a i (Nat.le_refl _) (by omega) m m1 m2 m3) (by omega)
    · have e := r.1 (fun m a b c d => Classical.byContradiction fun p => q ⟨m, a, b, c, d, by omega⟩)
      refine ⟨fun a => e.trans (ih.1 (fun e' p => a e' (by omega))), fun ⟨e', p, p2, m, m1, m2, m3, m4⟩ => e.trans (ih.2 ⟨e', ?_, p2, m, m1, m2, m3, m4⟩)⟩
      have : e' ≠ i := fun x => by subst x; exact q ⟨m, Nat.zero_le _, m1, m2, m3, m4⟩
      omega
theorem pt_red (l : List S60) (j : Nat) : pt l (j % l.length) = pt l j := by
  have := pt_mod l j 0
  simpa using this
theorem glob_iff {l : List S60} (h3 : 3 ≤ l.length) : (∀ e, 0 ≤ e → e < l.length → ∀ m, m < l.length → m ≠ e → m ≠ (e + 1) % l.length → 0 < cr3 (pt l e) (pt l ((e + 1) % l.length)) (pt l m)) ↔ Glob (pt l) l.length := by
  constructor
  · intro h i j hj hjn
    have hi := Nat.mod_lt i (show 0 < l.length by omega)
    have key : ∀ d, d < l.length → d ≠ 0 → (i % l.length + d) % l.length ≠ i % l.length := fun d hd h0 e => by
      by_cases q : i % l.length + d < l.length
      · rw [Nat.mod_eq_of_lt q] at e; omega
      · rw [Nat.mod_eq_sub_mod (by omega), Nat.mod_eq_of_lt (by omega)] at e; omega
    have k2 : (i % l.length + j) % l.length ≠ (i % l.length + 1) % l.length := fun e => by
      by_cases q : i % l.length + 1 < l.length
      · rw [Nat.mod_eq_of_lt q] at e
        by_cases q2 : i % l.length + j < l.length
        · rw [Nat.mod_eq_of_lt q2] at e; omega
        · rw [Nat.mod_eq_sub_mod (by omega), Nat.mod_eq_of_lt (by omega)] at e; omega
      · rw [Nat.mod_eq_sub_mod (show i % l.length + 1 ≥ l.length by omega), Nat.mod_eq_of_lt (show i % l.length + 1 - l.length < l.length by omega), Nat.mod_eq_sub_mod (by omega), Nat.mod_eq_of_lt (by omega)] at e
        omega
    have := h (i % l.length) (Nat.zero_le _) hi ((i % l.length + j) % l.length) (Nat.mod_lt _ (by omega)) (key j hjn (by omega)) k2
    rwa [pt_red, pt_red, pt_red, pt_mod, pt_mod] at this
  · intro g e _ he m hm h1 h2
    rw [pt_red]
    by_cases q : e < m
    · have := g e (m - e) (by
        refine Classical.byContradiction fun p => h2 ?_
        rw [Nat.mod_eq_of_lt (by omega)]; omega) (by omega)
      rwa [show e + (m - e) = m by omega] at this
    · have := g e (m + l.length - e) (by
        refine Classical.byContradiction fun p => h2 ?_
        have : e + 1 = l.length := by omega
        rw [this, Nat.mod_self]; omega) (by omega)
      rwa [show e + (m + l.length - e) = m + l.length by omega, pt_per] at this
theorem drop_rd (l : List S60) (i : Nat) (h : i < l.length) : l.drop i = rd_T60 l i :: l.drop (i + 1) := by
  rw [List.drop_eq_getElem_cons h]
  congr 1
  simp [rd_T60, List.getD_eq_getElem?_getD, List.getElem?_eq_getElem h]
theorem rd_mem (l : List S60) (i : Nat) (h : i < l.length) : rd_T60 l i ∈ l := by
  have : rd_T60 l i = l[i] := by simp [rd_T60, List.getD_eq_getElem?_getD, List.getElem?_eq_getElem h]
  rw [this]; exact List.getElem_mem h
def okc (s : S60) : Bool := okn s.f0 && okn s.f1
theorem okc_p {s : S60} (h : okc s = true) : Okp (s.f0, s.f1) := by
  simp only [okc, okn, Bool.and_eq_true, decide_eq_true_eq] at h; exact h
theorem ok_pt {l : List S60} (h : l.all okc = true) (h0 : 0 < l.length) : ∀ j, Okp (pt l j) := fun j =>
  okc_p (List.all_eq_true.1 h _ (rd_mem l (j % l.length) (Nat.mod_lt _ h0)))
def cxb (l : List S60) : Bool := cvx l (edge_upto l l.length) 0
def chk (l : List S60) (lo hi : Int) : Int := if l.length > 64 then 7 else if l.length < 3 then 1 else if (l.all okc && (okn lo && okn hi)) = false then 6 else if lo ≥ hi then 1 else if cxb l = true then 0 else 1
theorem pconvex {l : List S60} (h0 : 0 < l.length) (hn : l.length < 1000) : prism_convex.f l = some (cxb l) := by
  unfold prism_convex.f cxb; rw [if_pos ⟨h0, hn⟩]
theorem pck (l : List S60) (h3 : 0 < l.length) (hn : l.length < 1000) (lo hi : Int) : ∀ (m i k : Nat), i + m = l.length → m < k →
    prism_Check.l0 k l (l.length : Int) (i : Int) l lo hi = some (if (l.drop i).all okc = false then 6 else if lo ≥ hi then 1 else if cxb l = true then 0 else 1) := by
  intro m
  induction m with
  | zero =>
    intro i k hm hk
    obtain ⟨k, rfl⟩ : ∃ q, k = q + 1 := ⟨k - 1, by omega⟩
    unfold prism_Check.l0
    rw [if_neg (by omega), pconvex h3 hn, List.drop_eq_nil_of_le (by omega)]
    simp only [Option.bind_some, List.all_nil, Bool.true_eq_false, if_false]
    split
    · rfl
    · split <;> rfl
  | succ m ih =>
    intro i k hm hk
    obtain ⟨k, rfl⟩ : ∃ q, k = q + 1 := ⟨k - 1, by omega⟩
    unfold prism_Check.l0
    rw [if_pos (by omega), if_pos (by omega), if_pos (by omega), far_f, far_f, drop_rd l i (by omega), List.all_cons, wr (by omega)]
    have := ih (i + 1) k (by omega) (by omega)
    simp only [Option.bind_some, okc]
    by_cases a : okn (rd_T60 l i).f0 = true
    · by_cases b : okn (rd_T60 l i).f1 = true
      · simp only [a, b, Bool.not_true, Bool.false_eq_true, if_false, Bool.true_and]
        exact this
      · simp [a, b]
    · simp [a]
theorem check_k (l : List S60) (lo hi : Int) {k : Nat} (hk : 100 ≤ k) : prism_Check.f k l lo hi = some (chk l lo hi) := by
  unfold prism_Check.f chk
  by_cases h1 : l.length > 64
  · rw [if_pos (by omega), if_pos h1]
  · rw [if_neg (by omega), if_neg h1]
    by_cases h2 : l.length < 3
    · rw [if_pos (by omega), if_pos h2]
    · rw [if_neg (by omega), if_neg h2, far_f, far_f]
      have := pck l (by omega) (by omega) lo hi l.length 0 k (by omega) (by omega)
      simp only [Int.natCast_zero, List.drop_zero] at this
      simp only [Option.bind_some, this]
      cases okn lo <;> cases okn hi <;> cases l.all okc <;> simp
theorem rconvex_k {l : List S60} (h3 : 3 ≤ l.length) (hn : l.length ≤ 64) (ok : ∀ j, Okp (pt l j)) {k : Nat} (hk : 5000 ≤ k) : gangsawref08_convex.f k l = some (cxb l) := by
  have hb : l.length * (l.length + 2) ≤ 64 * 66 := Nat.mul_le_mul hn (by omega)
  obtain ⟨q, rfl⟩ : ∃ q, k = l.length * (l.length + 2) + 1 + q := ⟨k - (l.length * (l.length + 2) + 1), by omega⟩
  have r := rc0 (by omega) (by omega) ok l.length q 0 (by omega)
  unfold gangsawref08_convex.f
  by_cases c : cxb l = true
  · rw [c]
    exact r.1 ((glob_iff h3).2 ((convex_iff h3 (by omega) ok).1 c))
  · rw [Bool.not_eq_true] at c
    rw [c]
    refine r.2 (Classical.byContradiction fun n => ?_)
    have : cxb l = true := (convex_iff h3 (by omega) ok).2 ((glob_iff h3).1 fun e h0 he m hm h1 h2 => Int.not_le.1 fun p => n ⟨e, h0, he, m, hm, h1, h2, p⟩)
    rw [c] at this; exact absurd this (by decide)
theorem rck (l : List S60) (hn : l.length < 1000) (lo hi : Int) (q : Nat) : ∀ (m i : Nat), i + m = l.length →
    gangsawref08_Check.l0 (m + 1 + q) (i : Int) l lo hi = if (l.drop i).all okc = false then some 6 else gangsawref08_Check.j1 q (!(okn lo && okn hi)) l lo hi := by
  intro m
  induction m with
  | zero =>
    intro i hm
    rw [show 0 + 1 + q = q + 1 by omega]
    unfold gangsawref08_Check.l0
    rw [if_neg (by omega), List.drop_eq_nil_of_le (by omega), near_f, near_f]
    simp only [Option.bind_some, List.all_nil, Bool.true_eq_false, if_false]
    cases okn lo <;> simp
  | succ m ih =>
    intro i hm
    rw [show m + 1 + 1 + q = (m + 1 + q) + 1 by omega]
    unfold gangsawref08_Check.l0
    rw [if_pos (by omega), if_pos (by omega), near_f, near_f, drop_rd l i (by omega), List.all_cons, wr (by omega)]
    have := ih (i + 1) (by omega)
    simp only [Option.bind_some, okc]
    by_cases a : okn (rd_T60 l i).f0 = true
    · by_cases b : okn (rd_T60 l i).f1 = true
      · simp only [a, b, if_true, Bool.true_and]
        exact this
      · simp [a, b]
    · simp [a]
theorem rcheck_k (l : List S60) (lo hi : Int) {k : Nat} (hk : 6000 ≤ k) : gangsawref08_Check.f k l lo hi = some (chk l lo hi) := by
  unfold gangsawref08_Check.f chk
  by_cases h1 : l.length > 64
  · rw [if_pos (by omega), if_pos h1]
  · rw [if_neg (by omega), if_neg h1]
    by_cases h2 : l.length < 3
    · rw [if_pos (by omega), if_pos h2]
    · rw [if_neg (by omega), if_neg h2]
      obtain ⟨q, rfl⟩ : ∃ q, k = l.length + 1 + (q + 1) := ⟨k - l.length - 2, by omega⟩
      have := rck l (by omega) lo hi (q + 1) l.length 0 (by omega)
      simp only [Int.natCast_zero, List.drop_zero] at this
      rw [this]
      by_cases a : l.all okc = true
      · have c := rconvex_k (l := l) (k := q) (by omega) (by omega) (ok_pt a (by omega)) (by omega)
        simp only [gangsawref08_Check.j1, c, Option.bind_some]
        cases okn lo <;> cases okn hi <;> simp [a] <;> split <;> (try split) <;> simp_all
      · simp [a]
theorem awake_200 : gangsawlaw08_awake.f 200 = some true := by decide +kernel
theorem aw {k : Nat} (h : 200 ≤ k) : gangsawlaw08_awake.f k = some true := at_rounds (g := gangsawlaw08_awake.f) (fun k => gangsawlaw08_awake.mono k) h awake_200
def hl : List S60 → Int × Int × Int × Int × Int × Int → Int × Int × Int × Int × Int × Int
  | [], h => h
  | s :: l, (a, b, c, d, e, f) => hl l (mn a s.f0, mn b s.f1, c, mx d s.f0, mx e s.f1, f)
theorem chk_ok {l : List S60} {lo hi : Int} (h : chk l lo hi = 0) : (3 ≤ l.length ∧ l.length ≤ 64) ∧ (∀ j, Okp (pt l j)) ∧ ((-1000000 ≤ lo ∧ lo ≤ 1000000) ∧ -1000000 ≤ hi ∧ hi ≤ 1000000) ∧ lo < hi ∧ Glob (pt l) l.length := by
  unfold chk at h
  split at h
  · omega
  split at h
  · omega
  split at h
  · omega
  rename_i a b c
  rw [Bool.not_eq_false, Bool.and_eq_true, Bool.and_eq_true] at c
  split at h
  · omega
  split at h
  · rename_i d e
    have ok := ok_pt c.1 (show 0 < l.length by omega)
    refine ⟨by omega, ok, ?_, by omega, (convex_iff (by omega) (by omega) ok).1 e⟩
    have := c.2
    simp only [okn, decide_eq_true_eq] at this
    exact this
  · omega
theorem okc_rd {L : List S60} (h : L.all okc = true) {j : Nat} (hj : j < L.length) : Okp ((rd_T60 L (j : Int)).f0, (rd_T60 L (j : Int)).f1) :=
  okc_p (List.all_eq_true.1 h _ (rd_mem L j hj))
theorem chk_all {l : List S60} {lo hi : Int} (h : chk l lo hi = 0) : l.all okc = true := by
  unfold chk at h
  split at h
  · omega
  split at h
  · omega
  split at h
  · omega
  rename_i a b c
  rw [Bool.not_eq_false, Bool.and_eq_true] at c
  exact c.1
def bx (a b c d e f : Int) : Bool := okn a && (okn b && (okn c && (okn d && (okn e && (okn f && (decide (a < d) && (decide (b < e) && decide (c < f))))))))
theorem valid_f (a b c d e f : Int) : gangsawref08_Valid.f a b c d e f = some (bx a b c d e f) := by
  simp only [gangsawref08_Valid.f, near_f, Option.bind_some, bx]
  cases okn a <;> cases okn b <;> cases okn c <;> cases okn d <;> cases okn e <;> cases okn f <;> simp
  by_cases p : a < d <;> by_cases q : b < e <;> simp [p, q]
theorem boxed_k (a b c d e f : Int) {k : Nat} (hk : 20 ≤ k) : prism_boxed.f k a b c d e f = some (bx a b c d e f) := by
  obtain ⟨k, rfl⟩ : ∃ q, k = q + 20 := ⟨k - 20, by omega⟩
  have w0 : wrap64 (0 + 1) = 1 := by decide +kernel
  have w1 : wrap64 (1 + 1) = 2 := by decide +kernel
  have w2 : wrap64 (2 + 1) = 3 := by decide +kernel
  have w3 : wrap64 (3 + 1) = 4 := by decide +kernel
  have w4 : wrap64 (4 + 1) = 5 := by decide +kernel
  have w5 : wrap64 (5 + 1) = 6 := by decide +kernel
  have r0 : rd [a, b, c, d, e, f] 0 = a := rfl
  have r1 : rd [a, b, c, d, e, f] 1 = b := rfl
  have r2 : rd [a, b, c, d, e, f] 2 = c := rfl
  have r3 : rd [a, b, c, d, e, f] 3 = d := rfl
  have r4 : rd [a, b, c, d, e, f] 4 = e := rfl
  have r5 : rd [a, b, c, d, e, f] 5 = f := rfl
  simp only [prism_boxed.f, prism_boxed.l0, far_f, Option.bind_some, bx, w0, w1, w2, w3, w4, w5, r0, r1, r2, r3, r4, r5, List.length_cons, List.length_nil]
  cases okn a <;> cases okn b <;> cases okn c <;> cases okn d <;> cases okn e <;> cases okn f <;> simp
  by_cases p : a < d <;> by_cases q : b < e <;> simp [p, q]
def mv (x y : Int) (l : List S60) : List S60 := l.map fun s => ⟨s.f0 + x, s.f1 + y⟩
theorem mv_len (x y : Int) (l : List S60) : (mv x y l).length = l.length := by simp [mv]
theorem mv_rd (x y : Int) (l : List S60) {j : Nat} (h : j < l.length) : rd_T60 (mv x y l) (j : Int) = ⟨(rd_T60 l (j : Int)).f0 + x, (rd_T60 l (j : Int)).f1 + y⟩ := by
  simp [rd_T60, mv, List.getD_eq_getElem?_getD, List.getElem?_eq_getElem h]
def ad (x y : Int) (a : Int × Int) : Int × Int := (a.1 + x, a.2 + y)
theorem cr3_ad (x y : Int) (a b c : Int × Int) : cr3 (ad x y a) (ad x y b) (ad x y c) = cr3 a b c := by simp only [cr3, ad]; grind
theorem mv_pt (x y : Int) {l : List S60} (h0 : 0 < l.length) (j : Nat) : pt (mv x y l) j = ad x y (pt l j) := by
  have := Nat.mod_lt j h0
  simp only [pt, mv_len, mv_rd x y l this, ad]
theorem mv_glob (x y : Int) {l : List S60} (h0 : 0 < l.length) (g : Glob (pt l) l.length) : Glob (pt (mv x y l)) (mv x y l).length := fun i j h2 hj => by
  rw [mv_len] at hj
  rw [mv_pt x y h0, mv_pt x y h0, mv_pt x y h0, cr3_ad]
  exact g i j h2 hj
theorem chk_zero {l : List S60} {lo hi : Int} (h3 : 3 ≤ l.length) (hn : l.length ≤ 64) (ok : l.all okc = true) (o1 : okn lo = true) (o2 : okn hi = true) (hz : lo < hi) (g : Glob (pt l) l.length) : chk l lo hi = 0 := by
  unfold chk
  rw [if_neg (by omega), if_neg (by omega), ok, o1, o2, if_neg (by simp), if_neg (by omega), if_pos]
  exact (convex_iff h3 (by omega) (ok_pt ok (by omega))).2 g
theorem chk_mv {l : List S60} {lo hi : Int} (h : chk l lo hi = 0) (x y z : Int) : chk (mv x y l) (lo + z) (hi + z) = if ((mv x y l).all okc && (okn (lo + z) && okn (hi + z))) = true then 0 else 6 := by
  obtain ⟨⟨h3, hn⟩, ok, hz, hlt, g⟩ := chk_ok h
  by_cases c : ((mv x y l).all okc && (okn (lo + z) && okn (hi + z))) = true
  · rw [if_pos c]
    simp only [Bool.and_eq_true] at c
    exact chk_zero (by rw [mv_len]; exact h3) (by rw [mv_len]; exact hn) c.1 c.2.1 c.2.2 (by omega) (mv_glob x y (by omega) g)
  · rw [if_neg c]
    unfold chk
    rw [Bool.not_eq_true] at c
    rw [mv_len, if_neg (by omega), if_neg (by omega), if_pos c]
theorem pml {l : List S60} (ok : l.all okc = true) (hn : l.length ≤ 64) {x y : Int} (hx : -1000000 ≤ x ∧ x ≤ 1000000) (hy : -1000000 ≤ y ∧ y ≤ 1000000) (z lo hi : Int) : ∀ (m i k : Nat) (acc : List S60), i + m = l.length → m + 100 < k → acc.length = i →
    prism_Move.l0 k l (l.length : Int) (i : Int) x y z acc lo hi = (prism_Check.f (k - m - 1) (acc ++ mv x y (l.drop i)) lo hi).bind fun t => if t = 0 then some (acc ++ mv x y (l.drop i), lo, hi, 0) else some ([], 0, 0, 6) := by
  intro m
  induction m with
  | zero =>
    intro i k acc hm hk ha
    obtain ⟨k, rfl⟩ : ∃ q, k = q + 1 := ⟨k - 1, by omega⟩
    unfold prism_Move.l0
    rw [if_neg (by omega), List.drop_eq_nil_of_le (by omega)]
    simp only [mv, List.map_nil, List.append_nil, Nat.sub_zero, Nat.add_sub_cancel]
  | succ m ih =>
    intro i k acc hm hk ha
    obtain ⟨k, rfl⟩ : ∃ q, k = q + 1 := ⟨k - 1, by omega⟩
    have o := okc_rd ok (j := i) (by omega)
    obtain ⟨o1, o2⟩ := o
    unfold prism_Move.l0
    rw [if_pos (by omega), if_pos (by omega), if_pos (by omega), if_pos (by omega), wr (x := (i : Int) + 1) (by omega), wr (x := (rd_T60 l (i : Int)).f0 + x) (by simp only at o1; omega), wr (x := (rd_T60 l (i : Int)).f1 + y) (by simp only at o2; omega)]
    rw [show (i : Int) + 1 = ((i + 1 : Nat) : Int) by omega, ih (i + 1) k _ (by omega) (by omega) (by simp [ha]), drop_rd l i (by omega)]
    simp only [mv, List.map_cons, List.append_assoc, List.cons_append, List.nil_append, show k + 1 - (m + 1) - 1 = k - m - 1 by omega]
def mvd (l : List S60) (lo hi x y z : Int) : List S60 × Int × Int × Int := if (okn x && (okn y && okn z)) = true then (if ((mv x y l).all okc && (okn (lo + z) && okn (hi + z))) = true then (mv x y l, lo + z, hi + z, 0) else ([], 0, 0, 6)) else ([], 0, 0, 6)
theorem Move_k {l : List S60} {lo hi : Int} (h : chk l lo hi = 0) (x y z : Int) {k : Nat} (hk : 400 ≤ k) : prism_Move.f k l lo hi x y z = some (mvd l lo hi x y z) := by
  obtain ⟨⟨h3, hn⟩, ok, hz, hlt, g⟩ := chk_ok h
  obtain ⟨k, rfl⟩ : ∃ q, k = q + 1 := ⟨k - 1, by omega⟩
  simp only [prism_Move.f, check_k l lo hi (show 100 ≤ k + 1 by omega), h, far_f, Option.bind_some, if_true, prism_Move.j0, mvd]
  by_cases a : okn x = true
  · by_cases b : okn y = true
    · by_cases c : okn z = true
      · have hx : -1000000 ≤ x ∧ x ≤ 1000000 := of_decide_eq_true a
        have hy : -1000000 ≤ y ∧ y ≤ 1000000 := of_decide_eq_true b
        have hw : -1000000 ≤ z ∧ z ≤ 1000000 := of_decide_eq_true c
        have p := pml (chk_all h) hn hx hy z (lo + z) (hi + z) l.length 0 k [] (by omega) (by omega) rfl
        simp only [List.drop_zero, List.nil_append, Int.natCast_zero] at p
        rw [wr (x := lo + z) (by omega), wr (x := hi + z) (by omega), p, check_k _ _ _ (by omega), chk_mv h]
        simp only [a, b, c, Option.bind_some, Bool.not_true, Bool.false_eq_true, if_false, Bool.and_self, if_true]
        split <;> simp
      · simp [a, b, c]
    · simp [a, b]
  · simp [a]
theorem rml {l : List S60} (ok : l.all okc = true) (hn : l.length ≤ 64) {x y : Int} (hx : -1000000 ≤ x ∧ x ≤ 1000000) (hy : -1000000 ≤ y ∧ y ≤ 1000000) (z lo hi lo' hi' : Int) : ∀ (m i k : Nat) (acc : List S60), i + m = l.length → m < k → acc.length = i →
    gangsawref08_Move.l0 k (i : Int) l lo' hi' x y z acc lo hi = some (if ((mv x y (l.drop i)).all okc && (okn lo && okn hi)) = true then (acc ++ mv x y (l.drop i), lo, hi, 0) else ([], 0, 0, 6)) := by
  intro m
  induction m with
  | zero =>
    intro i k acc hm hk ha
    obtain ⟨k, rfl⟩ : ∃ q, k = q + 1 := ⟨k - 1, by omega⟩
    unfold gangsawref08_Move.l0
    rw [if_neg (by omega), List.drop_eq_nil_of_le (by omega), near_f, near_f]
    cases okn lo <;> cases okn hi <;> simp [mv]
  | succ m ih =>
    intro i k acc hm hk ha
    obtain ⟨k, rfl⟩ : ∃ q, k = q + 1 := ⟨k - 1, by omega⟩
    obtain ⟨o1, o2⟩ := okc_rd ok (j := i) (by omega)
    unfold gangsawref08_Move.l0
    rw [if_pos (by omega), if_pos (by omega), wr (x := (i : Int) + 1) (by omega), wr (x := (rd_T60 l (i : Int)).f0 + x) (by simp only at o1; omega), wr (x := (rd_T60 l (i : Int)).f1 + y) (by simp only at o2; omega), near_f, near_f, if_pos (show acc.length < 8796093022208 by omega)]
    rw [show (i : Int) + 1 = ((i + 1 : Nat) : Int) by omega, ih (i + 1) k _ (by omega) (by omega) (by simp [ha]), drop_rd l i (by omega)]
    simp only [mv, List.map_cons, List.all_cons, List.append_assoc, List.cons_append, List.nil_append, Option.bind_some, okc]
    by_cases a : okn ((rd_T60 l (i : Int)).f0 + x) = true
    · by_cases b : okn ((rd_T60 l (i : Int)).f1 + y) = true
      · simp [a, b]
      · simp [a, b]
    · simp [a]
theorem rMove_k {l : List S60} {lo hi : Int} (h : chk l lo hi = 0) (x y z : Int) {k : Nat} (hk : 400 ≤ k) : gangsawref08_Move.f k l lo hi x y z = some (mvd l lo hi x y z) := by
  obtain ⟨⟨h3, hn⟩, ok, hz, hlt, g⟩ := chk_ok h
  obtain ⟨k, rfl⟩ : ∃ q, k = q + 1 := ⟨k - 1, by omega⟩
  simp only [gangsawref08_Move.f, near_f, Option.bind_some, gangsawref08_Move.j0, mvd]
  by_cases a : okn x = true
  · by_cases b : okn y = true
    · by_cases c : okn z = true
      · have hx : -1000000 ≤ x ∧ x ≤ 1000000 := of_decide_eq_true a
        have hy : -1000000 ≤ y ∧ y ≤ 1000000 := of_decide_eq_true b
        have hw : -1000000 ≤ z ∧ z ≤ 1000000 := of_decide_eq_true c
        have p := rml (chk_all h) hn hx hy z (lo + z) (hi + z) lo hi l.length 0 k [] (by omega) (by omega) rfl
        simp only [List.drop_zero, List.nil_append, Int.natCast_zero] at p
        rw [wr (x := lo + z) (by omega), wr (x := hi + z) (by omega), p]
        simp [a, b, c]
      · simp [a, b, c]
    · simp [a, b]
  · simp [a]
theorem smk (l L : List S60) (lo hi lo' hi' : Int) (hl : l.length = L.length) (hn : l.length < 1000) : ∀ (m i k : Nat), i + m = l.length → m < k →
    gangsawref08_Same.l0 k (i : Int) l lo hi L lo' hi' = some (decide (l.drop i = L.drop i)) := by
  intro m
  induction m with
  | zero =>
    intro i k hm hk
    obtain ⟨k, rfl⟩ : ∃ q, k = q + 1 := ⟨k - 1, by omega⟩
    unfold gangsawref08_Same.l0
    rw [if_neg (by omega), List.drop_eq_nil_of_le (by omega), List.drop_eq_nil_of_le (by omega)]; rfl
  | succ m ih =>
    intro i k hm hk
    obtain ⟨k, rfl⟩ : ∃ q, k = q + 1 := ⟨k - 1, by omega⟩
    unfold gangsawref08_Same.l0
    rw [if_pos (by omega), if_pos (by omega), if_pos (by omega), wr (by omega), show (i : Int) + 1 = ((i + 1 : Nat) : Int) by omega, ih (i + 1) k (by omega) (by omega), drop_rd l i (by omega), drop_rd L i (by omega)]
    generalize rd_T60 l (i : Int) = u
    generalize rd_T60 L (i : Int) = v
    obtain ⟨u0, u1⟩ := u
    obtain ⟨v0, v1⟩ := v
    by_cases a : u0 = v0 <;> by_cases b : u1 = v1 <;> simp [a, b]
theorem same_k (l L : List S60) (lo hi lo' hi' : Int) (hn : l.length < 1000) {k : Nat} (hk : 1100 ≤ k) : gangsawref08_Same.f k l lo hi L lo' hi' = some (decide (l = L ∧ lo = lo' ∧ hi = hi')) := by
  obtain ⟨k, rfl⟩ : ∃ q, k = q + 1 := ⟨k - 1, by omega⟩
  simp only [gangsawref08_Same.f, gangsawref08_Same.j0]
  by_cases a : lo = lo'
  · by_cases b : hi = hi'
    · by_cases c : l.length = L.length
      · have := smk l L lo hi lo' hi' c hn l.length 0 k (by omega) (by omega)
        simp only [Int.natCast_zero, List.drop_zero] at this
        rw [if_pos a, if_pos b, this, if_neg (by simp [c])]
        simp [a, b]
      · have d : l ≠ L := fun e => c (by rw [e])
        simp [a, b, d, show ¬ (l.length : Int) = (L.length : Int) by omega]
    · simp [a, b]
  · simp [a]
def slc (l : List S60) (lo hi p q : Int) : List S60 × Int × Int × Int := if p ≥ q then ([], 0, 0, 1) else if mx lo p ≥ mn hi q then ([], 0, 0, 9) else (l, mx lo p, mn hi q, 0)
theorem Slice_k {l : List S60} {lo hi : Int} (h : chk l lo hi = 0) (p q : Int) {k : Nat} (hk : 100 ≤ k) : prism_Slice.f k l lo hi p q = some (slc l lo hi p q) := by
  obtain ⟨⟨h3, hn⟩, -⟩ := chk_ok h
  simp only [prism_Slice.f, check_k l lo hi hk, h, Option.bind_some, if_true, slc, List.nil_append, List.length_nil]
  rw [if_pos (show 0 + l.length < 8796093022208 by omega)]
  split
  · rfl
  · split <;> rfl
theorem mx_c (a b : Int) : mx a b = mx b a := by unfold mx; split <;> split <;> omega
theorem mn_c (a b : Int) : mn a b = mn b a := by unfold mn; split <;> split <;> omega
theorem rSlice_f (l : List S60) (lo hi p q : Int) : gangsawref08_Slice.f l lo hi p q = some (slc l lo hi p q) := by
  simp only [gangsawref08_Slice.f, slc, mx_c p lo, mn_c q hi]
  split
  · rfl
  · split <;> rfl
end Go.Proofs.Ythogemdknlpnpaa.Pure
