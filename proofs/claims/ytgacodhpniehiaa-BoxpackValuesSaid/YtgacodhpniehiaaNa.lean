import Derived.Test.YtgacodhpniehiaaXAx23
set_option linter.unusedVariables false
set_option linter.unusedSimpArgs false
namespace Go.Proofs.Ytgacodhpniehiaa.XA
set_option linter.unusedVariables false
set_option linter.unusedSimpArgs false
open Go.RowKit Opens YtgacodhpniehiaaW.PrintWords YtgacodhpniehiaaW.PrintLast YtgacodhpniehiaaW.PrintMore
theorem wr {x : Int} (h : -9223372036854775808 ≤ x ∧ x ≤ 9223372036854775807) : wrap64 x = x := by unfold wrap64; omega
theorem Ev.eq {α : Type} {g : Nat → Option α} {r s : α} (h : Ev g r) (e : r = s) : Ev g s := e ▸ h
theorem Ev.const {α : Type} {g : Nat → Option α} {r : α} (h : ∀ k, g k = some r) : Ev g r := ⟨0, fun k _ => h k⟩
theorem Ev.const1 {α : Type} {g : Nat → Option α} {r : α} (h : ∀ k, g (k + 1) = some r) : Ev g r := ⟨1, fun k hk => by
  obtain ⟨m, rfl⟩ : ∃ m, k = m + 1 := ⟨k - 1, by omega⟩
  exact h m⟩
theorem Ev.late {α : Type} {g : Nat → Option α} {r : α} (K : Nat) (h : ∀ k, g (k + K) = some r) : Ev g r := ⟨K, fun k hk => by
  obtain ⟨m, rfl⟩ : ∃ m, k = m + K := ⟨k - K, by omega⟩
  exact h m⟩
theorem len_app {α : Type} (p s : List α) (e : α) : ((p.length : Nat) : Int) < ((p ++ e :: s).length : Int) := by simp; omega
theorem app_snoc {α : Type} (p s : List α) (e : α) : p ++ e :: s = (p ++ [e]) ++ s := by simp
theorem len_snoc {α : Type} (p : List α) (e : α) : ((p ++ [e]).length : Int) = (p.length : Int) + 1 := by simp
theorem wrn (n : Nat) (h : n < 1000000) : wrap64 ((n : Int) + 1) = (n : Int) + 1 := wr ⟨by omega, by omega⟩
theorem rd56_app (p s : List S56) (e : S56) : rd_T56 (p ++ e :: s) (p.length : Int) = e := by
  simp [rd_T56, List.getD_eq_getElem?_getD]
theorem rd61_app (p s : List S61) (e : S61) : rd_T61 (p ++ e :: s) (p.length : Int) = e := by
  simp [rd_T61, List.getD_eq_getElem?_getD]
theorem rd_app (p s : List Int) (e : Int) : rd (p ++ e :: s) (p.length : Int) = e := by
  simp [rd, List.getD_eq_getElem?_getD]

def fst {α : Type} (P : α → Bool) : Int → List α → Int
  | _, [] => -1
  | i, x :: s => if P x = true then i else fst P (i + 1) s
theorem fst_any {α : Type} (P : α → Bool) : ∀ (s : List α) (i : Int), 0 ≤ i → decide (fst P i s ≥ 0) = s.any P
  | [], _, _ => rfl
  | x :: s, i, h => by
    rw [fst, List.any_cons]
    by_cases c : P x = true
    · rw [if_pos c, c, decide_eq_true h]; rfl
    · rw [if_neg c, fst_any P s (i + 1) (by omega), Bool.eq_false_iff.2 c]; rfl
theorem ix_ev {α : Type} (L : Nat → List α → Int → Int → Option Int) (g : Nat → α → Option Bool) (rdx : List α → Int → α) (hr : ∀ p s e, rdx (p ++ e :: s) ((p.length : Nat) : Int) = e)
    (hL : ∀ k xs n i, L (k + 1) xs n i = if i < n then (if 0 ≤ i then (if i < (xs.length : Int) then ((g k (rdx xs i)).bind fun t => (if t = true then (some i) else (L k xs n (wrap64 (i + 1))))) else none) else none) else (some (-1))) (P : α → Bool) :
    ∀ (s p : List α), (∀ x ∈ s, Ev (fun k => g k x) (P x)) → (p ++ s).length < 1000000 → Ev (fun k => L k (p ++ s) ((p ++ s).length : Int) (p.length : Int)) (fst P p.length s)
  | [], p, _, hl => by
    refine Ev.const1 (fun k => ?_)
    rw [hL, if_neg (by simp)]
    rfl
  | x :: s, p, hP, hl => by
    refine Ev.step (f := fun k => (g k x).bind fun t => (if t = true then (some (p.length : Int)) else (L k (p ++ x :: s) ((p ++ x :: s).length : Int) ((p.length : Int) + 1)))) (fun k => ?_) ?_
    · rw [hL, if_pos (len_app p s x), if_pos (by omega), if_pos (len_app p s x), hr, wrn _ (by simp at hl; omega)]
    · refine Ev.bind (f := fun k t => if t = true then (some (p.length : Int)) else (L k (p ++ x :: s) ((p ++ x :: s).length : Int) ((p.length : Int) + 1))) (hP x (List.mem_cons_self)) ?_
      rw [fst]
      by_cases c : P x = true
      · simp only [if_pos c]
        exact Ev.now _
      · simp only [if_neg c]
        have := ix_ev L g rdx hr hL P s (p ++ [x]) (fun y hy => hP y (List.mem_cons_of_mem _ hy)) (by rw [← app_snoc]; exact hl)
        rw [← app_snoc, len_snoc] at this
        exact this
theorem ix_any {α : Type} (L : Nat → List α → Int → Int → Option Int) (g : Nat → α → Option Bool) (rdx : List α → Int → α) (hr : ∀ p s e, rdx (p ++ e :: s) ((p.length : Nat) : Int) = e)
    (hL : ∀ k xs n i, L (k + 1) xs n i = if i < n then (if 0 ≤ i then (if i < (xs.length : Int) then ((g k (rdx xs i)).bind fun t => (if t = true then (some i) else (L k xs n (wrap64 (i + 1))))) else none) else none) else (some (-1))) (P : α → Bool)
    (s : List α) (hP : ∀ x ∈ s, Ev (fun k => g k x) (P x)) (hl : s.length < 1000000) : Ev (fun k => (L k s (s.length : Int) 0).bind fun t => some (decide (t ≥ 0))) (s.any P) := by
  have h := ix_ev L g rdx hr hL P s [] hP hl
  refine Ev.bind (f := fun _ t => some (decide (t ≥ 0))) h ?_
  rw [← fst_any P s 0 (by omega)]
  exact Ev.now _

def pos3 (s : S23) : Bool := decide (1 ≤ s.f0 ∧ s.f0 ≤ 24) && decide (1 ≤ s.f1 ∧ s.f1 ≤ 24) && decide (1 ≤ s.f2 ∧ s.f2 ≤ 24)
def itOk (x : S56) : Bool := pos3 x.f1 && decide (0 ≤ x.f2 ∧ x.f2 ≤ 1000000000)
def nameless (x : S56) : Bool := x.f0.toList == ([] : List UInt8)
def sameName (x y : S56) : Bool := x.f0.toList == y.f0.toList
def dup : List S56 → List S56 → Bool
  | _, [] => false
  | p, x :: s => p.any (fun y => sameName y x) || dup (p ++ [x]) s
def chk (n : S23) (kf : Int) (its : List S56) : Int :=
  if its.length > 6 then 7 else if its.any nameless = true then 4 else if (pos3 n && decide (0 ≤ kf ∧ kf ≤ 24) && its.all itOk) = true then (if dup [] its = true then 5 else 0) else 6
theorem possible_ev (a b c : Int) : Ev (fun k => boxpack_possible.f k a b c) (pos3 ⟨a, b, c⟩) := by
  refine Ev.late 4 (fun k => ?_)
  simp only [boxpack_possible.f, boxpack_sides.f, Option.bind_some, boxpack_possible.l0, pos3]
  grind
theorem check2_ev (x : S56) : Ev (fun k => boxpack_Check_2.f k x.f0 x.f1.f0 x.f1.f1 x.f1.f2 x.f2 x.f3 x.f4) (!itOk x) := by
  unfold boxpack_Check_2.f
  refine Ev.bind (f := fun k t109 => if t109 = true then (if x.f2 < 0 then (some true) else (some (decide (x.f2 > 1000000000)))) else (some true)) (possible_ev _ _ _) ?_
  refine Ev.const (fun k => ?_)
  unfold itOk
  rw [show (⟨x.f1.f0, x.f1.f1, x.f1.f2⟩ : S23) = x.f1 from rfl]
  cases pos3 x.f1
  · rfl
  · by_cases h : x.f2 < 0
    · rw [if_pos rfl, if_pos h, decide_eq_false (show ¬ (0 ≤ x.f2 ∧ x.f2 ≤ 1000000000) by omega)]; rfl
    · rw [if_pos rfl, if_neg h]
      by_cases h1 : x.f2 > 1000000000
      · rw [decide_eq_true h1, decide_eq_false (show ¬ (0 ≤ x.f2 ∧ x.f2 ≤ 1000000000) by omega)]; rfl
      · rw [decide_eq_false h1, decide_eq_true (show (0 ≤ x.f2 ∧ x.f2 ≤ 1000000000) by omega)]; rfl
theorem any_not_all {α : Type} (P : α → Bool) : ∀ s : List α, s.any (fun x => !P x) = !s.all P
  | [] => rfl
  | x :: s => by rw [List.any_cons, List.all_cons, any_not_all P s]; cases P x <;> rfl
theorem c1_ev (s : List S56) (hl : s.length < 1000000) : Ev (fun k => api_Item_34_by_boxpack_Check_1.f k s) (s.any nameless) :=
  ix_any (fun k xs n i => api_Item_30_by_boxpack_Check_1.l0 k xs n i) (fun _ x => boxpack_Check_1.f x.f0 x.f1.f0 x.f1.f1 x.f1.f2 x.f2 x.f3 x.f4) rd_T56 rd56_app (fun _ _ _ _ => rfl) nameless s (fun x _ => Ev.const fun _ => rfl) hl
theorem c2_ev (s : List S56) (hl : s.length < 1000000) : Ev (fun k => api_Item_34_by_boxpack_Check_2.f k s) (!s.all itOk) := by
  rw [← any_not_all]
  exact ix_any (fun k xs n i => api_Item_30_by_boxpack_Check_2.l0 k xs n i) (fun k x => boxpack_Check_2.f k x.f0 x.f1.f0 x.f1.f1 x.f1.f2 x.f2 x.f3 x.f4) rd_T56 rd56_app (fun _ _ _ _ => rfl) (fun x => !itOk x) s (fun x _ => check2_ev x) hl
theorem c3_ev (s : List S56) (x : S56) (hl : s.length < 1000000) : Ev (fun k => api_Item_34_by_boxpack_Check_3.f k s x.f0 x.f1.f0 x.f1.f1 x.f1.f2 x.f2 x.f3 x.f4) (s.any (fun y => sameName y x)) :=
  ix_any (fun k xs n i => api_Item_30_by_boxpack_Check_3.l0 k xs n i x.f0 x.f1.f0 x.f1.f1 x.f1.f2 x.f2 x.f3 x.f4) (fun _ y => boxpack_Check_3.f y.f0 y.f1.f0 y.f1.f1 y.f1.f2 y.f2 y.f3 y.f4 x.f0 x.f1.f0 x.f1.f1 x.f1.f2 x.f2 x.f3 x.f4) rd_T56 rd56_app (fun _ _ _ _ => rfl) (fun y => sameName y x) s (fun y _ => Ev.const fun _ => rfl) hl
theorem cl_ev (a b c d : Int) (its : List S56) (hi : its.length < 1000000) : ∀ (s p : List S56), p ++ s = its → Ev (fun k => boxpack_Check.l0 k its (its.length : Int) (p.length : Int) a b c d its) (if dup p s = true then 5 else 0)
  | [], p, hp => by
    refine Ev.const1 (fun k => ?_)
    rw [boxpack_Check.l0, if_neg (by rw [← hp]; simp)]
    rfl
  | x :: s, p, hp => by
    have hlt : (p.length : Int) < (its.length : Int) := by rw [← hp]; exact len_app p s x
    refine Ev.step (f := fun k => (api_Item_34_by_boxpack_Check_3.f k p x.f0 x.f1.f0 x.f1.f1 x.f1.f2 x.f2 x.f3 x.f4).bind fun t => (if t = true then (some 5) else (boxpack_Check.l0 k its (its.length : Int) ((p ++ [x]).length : Int) a b c d its))) (fun k => ?_) ?_
    · rw [boxpack_Check.l0, if_pos hlt, if_pos (by omega), if_pos hlt, if_pos (by omega), show (its.take ((p.length : Int)).toNat) = p by rw [← hp]; simp, show rd_T56 its (p.length : Int) = x by rw [← hp]; exact rd56_app p s x, wrn _ (by omega), len_snoc]
    · refine Ev.bind (f := fun k t => (if t = true then (some 5) else (boxpack_Check.l0 k its (its.length : Int) ((p ++ [x]).length : Int) a b c d its))) (c3_ev p x (by have := congrArg List.length hp; simp at this; omega)) ?_
      rw [dup]
      cases hd : p.any (fun y => sameName y x)
      · simp only [Bool.false_eq_true, if_false, Bool.false_or]
        exact cl_ev a b c d its hi s (p ++ [x]) (by rw [← hp]; simp)
      · simp only [if_true, Bool.true_or]
        exact Ev.now _
theorem cj_ev (a b c d : Int) (its : List S56) (hi : its.length < 1000000) (t : Bool) : Ev (fun k => boxpack_Check.j0 k t a b c d its) (if t = true then 6 else if dup [] its = true then 5 else 0) := by
  refine Ev.step (f := fun k => if t = true then some 6 else boxpack_Check.l0 k its (its.length : Int) 0 a b c d its) (fun k => rfl) ?_
  cases t
  · simp only [Bool.false_eq_true, if_false]
    exact cl_ev a b c d its hi its [] rfl
  · exact Ev.now _
theorem check_ev (n : S23) (kf : Int) (its : List S56) : Ev (fun k => boxpack_Check.f k n.f0 n.f1 n.f2 kf its) (chk n kf its) := by
  unfold boxpack_Check.f chk
  by_cases h6 : (its.length : Int) > 6
  · simp only [if_pos h6, if_pos (show its.length > 6 by omega)]
    exact Ev.now _
  · simp only [if_neg h6, if_neg (show ¬ its.length > 6 by omega)]
    refine Ev.bind (f := fun k t115 => if t115 = true then (some 4) else ((boxpack_possible.f k n.f0 n.f1 n.f2).bind fun t116 => (if t116 = true then (if kf < 0 then (boxpack_Check.j0 k true n.f0 n.f1 n.f2 kf its) else (if kf > 24 then (boxpack_Check.j0 k true n.f0 n.f1 n.f2 kf its) else ((api_Item_34_by_boxpack_Check_2.f k its).bind fun t117 => (boxpack_Check.j0 k t117 n.f0 n.f1 n.f2 kf its)))) else (boxpack_Check.j0 k true n.f0 n.f1 n.f2 kf its)))) (c1_ev its (by omega)) ?_
    cases its.any nameless
    case true => exact Ev.now _
    simp only [Bool.false_eq_true, if_false]
    refine Ev.bind (f := fun k t116 => if t116 = true then (if kf < 0 then (boxpack_Check.j0 k true n.f0 n.f1 n.f2 kf its) else (if kf > 24 then (boxpack_Check.j0 k true n.f0 n.f1 n.f2 kf its) else ((api_Item_34_by_boxpack_Check_2.f k its).bind fun t117 => (boxpack_Check.j0 k t117 n.f0 n.f1 n.f2 kf its)))) else (boxpack_Check.j0 k true n.f0 n.f1 n.f2 kf its)) (possible_ev n.f0 n.f1 n.f2) ?_
    rw [show (⟨n.f0, n.f1, n.f2⟩ : S23) = n from rfl]
    cases pos3 n
    case false =>
      simp only [Bool.false_eq_true, if_false, Bool.false_and]
      exact cj_ev _ _ _ _ its (by omega) true
    simp only [if_true, Bool.true_and]
    by_cases k0 : kf < 0
    · simp only [if_pos k0, decide_eq_false (show ¬ (0 ≤ kf ∧ kf ≤ 24) by omega), Bool.false_and, Bool.false_eq_true, if_false]
      exact cj_ev _ _ _ _ its (by omega) true
    by_cases k1 : kf > 24
    · simp only [if_neg k0, if_pos k1, decide_eq_false (show ¬ (0 ≤ kf ∧ kf ≤ 24) by omega), Bool.false_and, Bool.false_eq_true, if_false]
      exact cj_ev _ _ _ _ its (by omega) true
    simp only [if_neg k0, if_neg k1, decide_eq_true (show (0 ≤ kf ∧ kf ≤ 24) by omega), Bool.true_and]
    refine Ev.bind (f := fun k t117 => boxpack_Check.j0 k t117 n.f0 n.f1 n.f2 kf its) (c2_ev its (by omega)) ?_
    refine Ev.eq (cj_ev _ _ _ _ its (by omega) _) ?_
    cases its.all itOk <;> rfl

theorem side_eq (s : S23) (ax : Int) (h : 0 ≤ ax ∧ ax ≤ 2) : rf_side.f s.f0 s.f1 s.f2 ax = some (getAx s ax) := by
  have : ax = 0 ∨ ax = 1 ∨ ax = 2 := by omega
  rcases this with rfl | rfl | rfl <;> rfl
theorem sized_ev (s : S23) : Ev (fun k => rf_sized.f k s.f0 s.f1 s.f2) (pos3 s) := by
  refine Ev.late 4 (fun k => ?_)
  simp only [rf_sized.f, rf_sized.l0]
  rw [show wrap64 (0 + 1) = 1 from wr ⟨by decide, by decide⟩, show wrap64 (1 + 1) = 2 from wr ⟨by decide, by decide⟩, show wrap64 (2 + 1) = 3 from wr ⟨by decide, by decide⟩]
  simp only [side_eq s 0 (by decide), side_eq s 1 (by decide), side_eq s 2 (by decide), Option.bind_some, pos3]
  rw [show getAx s 0 = s.f0 from rfl, show getAx s 1 = s.f1 from rfl, show getAx s 2 = s.f2 from rfl]
  grind
theorem r3_ev (a b c d : Int) (its : List S56) (hi : its.length < 1000000) (x : S56) (s : List S56) (p : List S56) (hp : p ++ x :: s = its) (R : Int) (hn : Ev (fun k => rf_Check.l2 k ((p.length : Int) + 1) a b c d its) R) : ∀ (q2 q1 : List S56), q1 ++ q2 = p → Ev (fun k => rf_Check.l3 k (p.length : Int) (q1.length : Int) a b c d its) (if q2.any (fun y => sameName y x) = true then 5 else R)
  | [], q1, hq => by
    refine Ev.step (f := fun k => rf_Check.l2 k ((p.length : Int) + 1) a b c d its) (fun k => ?_) hn
    rw [rf_Check.l3, if_neg (by rw [← hq]; simp), wrn _ (by have := congrArg List.length hp; simp at this; omega)]
  | y :: q2, q1, hq => by
    have h1 : (q1.length : Int) < (p.length : Int) := by rw [← hq]; exact len_app q1 q2 y
    have h2 : (p.length : Int) < (its.length : Int) := by rw [← hp]; exact len_app p s x
    have hx : rd_T56 its (p.length : Int) = x := by rw [← hp]; exact rd56_app p s x
    have hy : rd_T56 its (q1.length : Int) = y := by rw [← hp, ← hq, List.append_assoc, List.cons_append]; exact rd56_app q1 (q2 ++ x :: s) y
    refine Ev.step (f := fun k => if x.f0.toList = y.f0.toList then some 5 else rf_Check.l3 k (p.length : Int) ((q1 ++ [y]).length : Int) a b c d its) (fun k => ?_) ?_
    · rw [rf_Check.l3, if_pos h1, if_pos (by omega), if_pos h2, if_pos (by omega), if_pos (by omega), hx, hy, wrn _ (by omega), len_snoc]
    · rw [List.any_cons]
      by_cases he : x.f0.toList = y.f0.toList
      · simp only [if_pos he, sameName, he, beq_self_eq_true, Bool.true_or, if_true]
        exact Ev.now _
      · have he' : (y.f0.toList == x.f0.toList) = false := beq_eq_false_iff_ne.2 (fun h => he h.symm)
        simp only [if_neg he, sameName, he', Bool.false_or]
        exact r3_ev a b c d its hi x s p hp R hn q2 (q1 ++ [y]) (by rw [← hq]; simp)
theorem r2_ev (a b c d : Int) (its : List S56) (hi : its.length < 1000000) : ∀ (s p : List S56), p ++ s = its → Ev (fun k => rf_Check.l2 k (p.length : Int) a b c d its) (if dup p s = true then 5 else 0)
  | [], p, hp => by
    refine Ev.const1 (fun k => ?_)
    rw [rf_Check.l2, if_neg (by rw [← hp]; simp)]
    rfl
  | x :: s, p, hp => by
    have h2 : (p.length : Int) < (its.length : Int) := by rw [← hp]; exact len_app p s x
    refine Ev.step (f := fun k => rf_Check.l3 k (p.length : Int) 0 a b c d its) (fun k => ?_) ?_
    · rw [rf_Check.l2, if_pos h2]
    · have ih := r2_ev a b c d its hi s (p ++ [x]) (by rw [← hp]; simp)
      rw [len_snoc] at ih
      refine Ev.eq (r3_ev a b c d its hi x s p hp _ ih p [] rfl) ?_
      rw [dup]
      cases p.any (fun y => sameName y x) <;> rfl
theorem r1_ev (n : S23) (d : Int) (its : List S56) (hi : its.length < 1000000) : ∀ (s p : List S56) (ok : Bool), p ++ s = its → Ev (fun k => rf_Check.l1 k ok (p.length : Int) n.f0 n.f1 n.f2 d its) (if (ok && s.all itOk) = true then (if dup [] its = true then 5 else 0) else 6)
  | [], p, ok, hp => by
    refine Ev.step (f := fun k => if ok = true then rf_Check.l2 k 0 n.f0 n.f1 n.f2 d its else some 6) (fun k => ?_) ?_
    · rw [rf_Check.l1, if_neg (by rw [← hp]; simp)]
    · cases ok
      · exact Ev.now _
      · exact r2_ev _ _ _ _ its hi its [] rfl
  | x :: s, p, ok, hp => by
    have h2 : (p.length : Int) < (its.length : Int) := by rw [← hp]; exact len_app p s x
    have hx : rd_T56 its (p.length : Int) = x := by rw [← hp]; exact rd56_app p s x
    have ih := fun ok => r1_ev n d its hi s (p ++ [x]) ok (by rw [← hp]; simp)
    simp only [len_snoc] at ih
    refine Ev.step (f := fun k => if ok = true then ((rf_sized.f k x.f1.f0 x.f1.f1 x.f1.f2).bind fun t257 => (if t257 = true then (if x.f2 ≥ 0 then (rf_Check.l1 k (decide (x.f2 ≤ 1000000000)) ((p.length : Int) + 1) n.f0 n.f1 n.f2 d its) else (rf_Check.l1 k false ((p.length : Int) + 1) n.f0 n.f1 n.f2 d its)) else (rf_Check.l1 k false ((p.length : Int) + 1) n.f0 n.f1 n.f2 d its))) else rf_Check.l1 k false ((p.length : Int) + 1) n.f0 n.f1 n.f2 d its) (fun k => ?_) ?_
    · rw [rf_Check.l1, if_pos h2, if_pos (show 0 ≤ (p.length : Int) by omega), hx, wrn _ (by omega)]
    · cases ok
      · simp only [Bool.false_eq_true, if_false, Bool.false_and]
        refine Ev.eq (ih false) ?_
        simp
      · simp only [if_true, Bool.true_and]
        refine Ev.bind (f := fun k t257 => if t257 = true then (if x.f2 ≥ 0 then (rf_Check.l1 k (decide (x.f2 ≤ 1000000000)) ((p.length : Int) + 1) n.f0 n.f1 n.f2 d its) else (rf_Check.l1 k false ((p.length : Int) + 1) n.f0 n.f1 n.f2 d its)) else (rf_Check.l1 k false ((p.length : Int) + 1) n.f0 n.f1 n.f2 d its)) (sized_ev x.f1) ?_
        rw [List.all_cons]
        unfold itOk
        cases pos3 x.f1
        · simp only [Bool.false_eq_true, if_false, Bool.false_and]
          refine Ev.eq (ih false) ?_
          simp
        · by_cases h0 : x.f2 ≥ 0
          · simp only [if_true, if_pos h0, Bool.true_and]
            refine Ev.eq (ih _) ?_
            rw [show decide (0 ≤ x.f2 ∧ x.f2 ≤ 1000000000) = decide (x.f2 ≤ 1000000000) from decide_eq_decide.2 ⟨fun h => h.2, fun h => ⟨h0, h⟩⟩]
            rfl
          · simp only [if_true, if_neg h0, Bool.true_and]
            refine Ev.eq (ih false) ?_
            rw [decide_eq_false (show ¬ (0 ≤ x.f2 ∧ x.f2 ≤ 1000000000) from fun h => h0 h.1)]
            simp
theorem r0_ev (n : S23) (d : Int) (its : List S56) (hi : its.length < 1000000) : ∀ (s p : List S56), p ++ s = its → Ev (fun k => rf_Check.l0 k (p.length : Int) n.f0 n.f1 n.f2 d its) (if s.any nameless = true then 4 else if (pos3 n && decide (0 ≤ d ∧ d ≤ 24) && its.all itOk) = true then (if dup [] its = true then 5 else 0) else 6)
  | [], p, hp => by
    refine Ev.step (f := fun k => (rf_sized.f k n.f0 n.f1 n.f2).bind fun t255 => (if t255 = true then (if d ≥ 0 then (rf_Check.j1 k (decide (d ≤ 24)) n.f0 n.f1 n.f2 d its) else (rf_Check.j1 k false n.f0 n.f1 n.f2 d its)) else (rf_Check.j1 k false n.f0 n.f1 n.f2 d its))) (fun k => ?_) ?_
    · rw [rf_Check.l0, if_neg (by rw [← hp]; simp)]
    · refine Ev.bind (f := fun k t255 => if t255 = true then (if d ≥ 0 then (rf_Check.j1 k (decide (d ≤ 24)) n.f0 n.f1 n.f2 d its) else (rf_Check.j1 k false n.f0 n.f1 n.f2 d its)) else (rf_Check.j1 k false n.f0 n.f1 n.f2 d its)) (sized_ev n) ?_
      have hj : ∀ ok, Ev (fun k => rf_Check.j1 k ok n.f0 n.f1 n.f2 d its) (if (ok && its.all itOk) = true then (if dup [] its = true then 5 else 0) else 6) := fun ok => Ev.step (f := fun k => rf_Check.l1 k ok 0 n.f0 n.f1 n.f2 d its) (fun k => rfl) (r1_ev n d its hi its [] ok rfl)
      cases pos3 n
      · simp only [Bool.false_eq_true, if_false, Bool.false_and]
        refine Ev.eq (hj false) ?_
        simp
      · by_cases h0 : d ≥ 0
        · simp only [if_true, if_pos h0, Bool.true_and]
          refine Ev.eq (hj _) ?_
          rw [show decide (0 ≤ d ∧ d ≤ 24) = decide (d ≤ 24) from decide_eq_decide.2 ⟨fun h => h.2, fun h => ⟨h0, h⟩⟩]
          rfl
        · simp only [if_true, if_neg h0, Bool.true_and]
          refine Ev.eq (hj false) ?_
          rw [decide_eq_false (show ¬ (0 ≤ d ∧ d ≤ 24) from fun h => h0 h.1)]
          simp
  | x :: s, p, hp => by
    have h2 : (p.length : Int) < (its.length : Int) := by rw [← hp]; exact len_app p s x
    have hx : rd_T56 its (p.length : Int) = x := by rw [← hp]; exact rd56_app p s x
    refine Ev.step (f := fun k => if x.f0.toList = ([] : List UInt8) then some 4 else rf_Check.l0 k ((p ++ [x]).length : Int) n.f0 n.f1 n.f2 d its) (fun k => ?_) ?_
    · rw [rf_Check.l0, if_pos h2, if_pos (by omega), hx, wrn _ (by omega), len_snoc]
    · rw [List.any_cons]
      by_cases he : x.f0.toList = []
      · simp only [if_pos he, nameless, he, beq_self_eq_true, Bool.true_or, if_true]
        exact Ev.now _
      · have he' : nameless x = false := beq_eq_false_iff_ne.2 he
        simp only [if_neg he, he', Bool.false_or]
        exact r0_ev n d its hi s (p ++ [x]) (by rw [← hp]; simp)
theorem rcheck_ev (n : S23) (kf : Int) (its : List S56) : Ev (fun k => rf_Check.f k n.f0 n.f1 n.f2 kf its) (chk n kf its) := by
  unfold rf_Check.f chk
  by_cases h6 : (its.length : Int) > 6
  · simp only [if_pos h6, if_pos (show its.length > 6 by omega)]
    exact Ev.now _
  · simp only [if_neg h6, if_neg (show ¬ its.length > 6 by omega)]
    exact r0_ev n kf its (by omega) its [] rfl
def small (n : S23) (kf : Int) (its : List S56) (m : Int) : Bool := decide (its.length ≤ 8) && (decide (chk n kf its ≠ 0) || decide (n.f0 ≤ m ∧ n.f1 ≤ m ∧ n.f2 ≤ m))
theorem small_ev (n : S23) (kf : Int) (its : List S56) (m : Int) : Ev (fun k => rf_Small.f k n.f0 n.f1 n.f2 kf its m) (small n kf its m) := by
  unfold rf_Small.f small
  by_cases h8 : (its.length : Int) > 8
  · simp only [if_pos h8, decide_eq_false (show ¬ its.length ≤ 8 by omega), Bool.false_and]
    exact Ev.now _
  · simp only [if_neg h8, decide_eq_true (show its.length ≤ 8 by omega), Bool.true_and]
    refine Ev.bind (f := fun k t263 => if t263 = 0 then (if n.f0 ≤ m then (if n.f1 ≤ m then (some (decide (n.f2 ≤ m))) else (some false)) else (some false)) else (some true)) (rcheck_ev n kf its) ?_
    refine Ev.const (fun k => ?_)
    by_cases hc : chk n kf its = 0
    · simp only [if_pos hc, hc, ne_eq, not_true_eq_false, decide_false, Bool.false_or]
      by_cases a : n.f0 ≤ m <;> by_cases b : n.f1 ≤ m <;> simp [a, b]
    · simp [hc]

def okN (n : S23) : Prop := (1 ≤ n.f0 ∧ n.f0 ≤ 24) ∧ (1 ≤ n.f1 ∧ n.f1 ≤ 24) ∧ (1 ≤ n.f2 ∧ n.f2 ≤ 24)
theorem S23.ext' {p q : S23} (h0 : p.f0 = q.f0) (h1 : p.f1 = q.f1) (h2 : p.f2 = q.f2) : p = q := by cases p; cases q; simp_all
theorem pos3_ok {n : S23} (h : pos3 n = true) : okN n := by
  unfold pos3 at h
  simp only [Bool.and_eq_true, decide_eq_true_eq] at h
  exact ⟨h.1.1, h.1.2, h.2⟩
theorem rfitsf (a b : S23) : rf_Fits.f a.f0 a.f1 a.f2 b.f0 b.f1 b.f2 = some (fitsB a b) := by
  unfold rf_Fits.f fitsB
  by_cases h0 : a.f0 ≤ b.f0 <;> by_cases h1 : a.f1 ≤ b.f1 <;> simp [h0, h1]
theorem with_eq (s : S23) (ax v : Int) (ha : 0 ≤ ax ∧ ax ≤ 2) : rf_with.f s.f0 s.f1 s.f2 ax v = some ((setAx s ax v).f0, (setAx s ax v).f1, (setAx s ax v).f2) := by
  have h1 : ax = 0 ∨ ax = 1 ∨ ax = 2 := by omega
  rcases h1 with rfl | rfl | rfl <;> rfl
theorem chk_ok {n : S23} {kf : Int} {its : List S56} (h : chk n kf its = 0) : okN n ∧ (0 ≤ kf ∧ kf ≤ 24) ∧ its.length ≤ 6 ∧ its.all itOk = true ∧ dup [] its = false := by
  unfold chk at h
  by_cases h6 : its.length > 6
  · rw [if_pos h6] at h; omega
  rw [if_neg h6] at h
  cases h1 : its.any nameless <;> rw [h1] at h
  · simp only [Bool.false_eq_true, if_false] at h
    cases h2 : (pos3 n && decide (0 ≤ kf ∧ kf ≤ 24) && its.all itOk) <;> rw [h2] at h
    · simp at h
    · simp only [if_true] at h
      simp only [Bool.and_eq_true, decide_eq_true_eq] at h2
      refine ⟨pos3_ok h2.1.1, h2.1.2, by omega, h2.2, ?_⟩
      cases h3 : dup [] its
      · rfl
      · rw [h3] at h; simp at h
  · simp at h
def okLeaf (n : S61) : Bool := decide (0 ≤ n.f0 ∧ n.f0 ≤ 2) && decide (n.f2 = 0 ∧ n.f3 = 0 ∧ n.f4 = 0 ∧ n.f5 = 0 ∧ n.f6 = 0) && (decide (n.f0 ≠ 0) || decide (n.f1.toList = []))
def okCut (N i : Int) (n : S61) : Bool := decide (n.f0 = 3 ∧ (0 ≤ n.f2 ∧ n.f2 ≤ 2) ∧ n.f1.toList = [] ∧ n.f5 ≠ n.f6 ∧ (i < n.f5 ∧ n.f5 < N) ∧ (i < n.f6 ∧ n.f6 < N))
def bump (u : List Int) (k : Int) : List Int := u.set k.toNat (wrap64 (rd u k + 1))
def fmF (N : Int) : List S61 → Int → List Int → Option (List Int)
  | [], _, u => some u
  | n :: ns, i, u => if okLeaf n = true then fmF N ns (i + 1) u else if okCut N i n = true then fmF N ns (i + 1) (bump (bump u n.f5) n.f6) else none
def finB (u : List Int) : Bool := (u.drop 1).all (fun v => v == 1)
def fmR (N : Int) (s : List S61) (i : Int) (u : List Int) : Bool := match fmF N s i u with
  | none => false
  | some u' => finB u'
def formB (l : List S61) : Bool := !l.isEmpty && fmR l.length l 0 (List.replicate l.length 0)
theorem bump_len (u : List Int) (k : Int) : (bump u k).length = u.length := by unfold bump; rw [List.length_set]
theorem not1_ev (u : List Int) (hl : u.length < 1000000) : Ev (fun k => slices_ContainsFunc_int_int_by_boxpack_plan_1.f k u) (!u.all (fun v => v == 1)) := by
  rw [← any_not_all]
  exact ix_any (fun k xs n i => slices_IndexFunc_int_int_by_boxpack_plan_1.l0 k xs n i) (fun _ x => boxpack_plan_1.f x) rd rd_app (fun _ _ _ _ => rfl) (fun x => !(x == 1)) u (fun x _ => Ev.const fun _ => rfl) hl
theorem leaf_iff {n : S61} : okLeaf n = true ↔ (0 ≤ n.f0 ∧ n.f0 ≤ 2) ∧ (n.f2 = 0 ∧ n.f3 = 0 ∧ n.f4 = 0 ∧ n.f5 = 0 ∧ n.f6 = 0) ∧ (n.f0 = 0 → n.f1.toList = []) := by
  unfold okLeaf
  simp only [Bool.and_eq_true, Bool.or_eq_true, decide_eq_true_eq]
  constructor
  · rintro ⟨⟨a, b⟩, c⟩
    exact ⟨a, b, fun h => c.resolve_left (fun hh => hh h)⟩
  · rintro ⟨a, b, c⟩
    exact ⟨⟨a, b⟩, (Decidable.em (n.f0 = 0)).elim (fun h => Or.inr (c h)) Or.inl⟩
theorem cut_iff {N i : Int} {n : S61} : okCut N i n = true ↔ n.f0 = 3 ∧ (0 ≤ n.f2 ∧ n.f2 ≤ 2) ∧ n.f1.toList = [] ∧ n.f5 ≠ n.f6 ∧ (i < n.f5 ∧ n.f5 < N) ∧ (i < n.f6 ∧ n.f6 < N) := by
  unfold okCut
  rw [decide_eq_true_eq]
theorem fmR_cons (N : Int) (n : S61) (ns : List S61) (i : Int) (u : List Int) : fmR N (n :: ns) i u = if okLeaf n = true then fmR N ns (i + 1) u else if okCut N i n = true then fmR N ns (i + 1) (bump (bump u n.f5) n.f6) else false := by
  unfold fmR
  rw [fmF]
  by_cases a : okLeaf n = true
  · rw [if_pos a, if_pos a]
  · rw [if_neg a, if_neg a]
    by_cases b : okCut N i n = true
    · rw [if_pos b, if_pos b]
    · rw [if_neg b, if_neg b]
theorem plan1_ev (l : List S61) (i : Int) (h0 : 0 ≤ i) (n : S61) (u : List Int) (hu : u.length = l.length) (R : Bool) (hne : n.f5 ≠ n.f6)
    (hR : (i < n.f5 ∧ n.f5 < (l.length : Int)) → (i < n.f6 ∧ n.f6 < (l.length : Int)) → Ev (fun k => boxpack_plan.l0 k l (bump (bump u n.f5) n.f6) l (l.length : Int) (wrap64 (i + 1))) R) :
    Ev (fun k => boxpack_plan.l1 k l u i l (l.length : Int) i 0 n.f5 n.f6) (decide ((i < n.f5 ∧ n.f5 < (l.length : Int)) ∧ (i < n.f6 ∧ n.f6 < (l.length : Int))) && R) := by
  by_cases a : i < n.f5 ∧ n.f5 < (l.length : Int)
  · refine Ev.step (f := fun k => boxpack_plan.l1 k l (bump u n.f5) i l (l.length : Int) i 1 n.f5 n.f6) (fun k => ?_) ?_
    · rw [boxpack_plan.l1, if_pos (by decide), if_pos rfl, if_neg (by omega), if_neg (by omega), if_pos (by omega), if_pos (by omega)]
      rfl
    · by_cases b : i < n.f6 ∧ n.f6 < (l.length : Int)
      · refine Ev.step (f := fun k => boxpack_plan.l1 k l (bump (bump u n.f5) n.f6) i l (l.length : Int) i 2 n.f5 n.f6) (fun k => ?_) ?_
        · rw [boxpack_plan.l1, if_pos (by decide), if_neg (by decide), if_pos rfl, if_neg (by omega), if_neg (by omega), if_pos (by omega), if_pos (by rw [bump_len]; omega)]
          rfl
        · refine Ev.step (f := fun k => boxpack_plan.l0 k l (bump (bump u n.f5) n.f6) l (l.length : Int) (wrap64 (i + 1))) (fun k => ?_) ?_
          · rw [boxpack_plan.l1, if_neg (by decide)]
          · rw [decide_eq_true (And.intro a b), Bool.true_and]
            exact hR a b
      · rw [decide_eq_false (fun h => b h.2), Bool.false_and]
        refine Ev.const1 (fun k => ?_)
        rw [boxpack_plan.l1, if_pos (by decide), if_neg (by decide), if_pos rfl]
        by_cases c : n.f6 ≤ i
        · rw [if_pos c]
        · rw [if_neg c, if_pos (by omega)]
  · rw [decide_eq_false (fun h => a h.1), Bool.false_and]
    refine Ev.const1 (fun k => ?_)
    rw [boxpack_plan.l1, if_pos (by decide), if_pos rfl]
    by_cases c : n.f5 ≤ i
    · rw [if_pos c]
    · rw [if_neg c, if_pos (by omega)]
theorem planl_ev (l : List S61) (hl : l.length < 1000000) : ∀ (s p : List S61) (u : List Int), p ++ s = l → u.length = l.length → Ev (fun k => boxpack_plan.l0 k l u l (l.length : Int) (p.length : Int)) (!l.isEmpty && fmR l.length s p.length u)
  | [], p, u, hp, hu => by
    refine Ev.step (f := fun k => if (l.length : Int) > 0 then (if 1 ≤ (u.length : Int) then ((slices_ContainsFunc_int_int_by_boxpack_plan_1.f k (u.drop 1)).bind fun t135 => (some (!t135))) else (none)) else (some false)) (fun k => ?_) ?_
    · rw [boxpack_plan.l0, if_neg (by rw [← hp]; simp)]
    · cases l with
      | nil => exact Ev.now _
      | cons x l =>
        simp only [if_pos (show ((x :: l).length : Int) > 0 by rw [List.length_cons]; omega), if_pos (show 1 ≤ (u.length : Int) by rw [hu, List.length_cons]; omega)]
        refine Ev.bind (f := fun _ t135 => some (!t135)) (not1_ev (u.drop 1) (by simp; omega)) ?_
        rw [Bool.not_not]
        exact Ev.now _
  | n :: s, p, u, hp, hu => by
    have h2 : (p.length : Int) < (l.length : Int) := by rw [← hp]; exact len_app p s n
    have hx : rd_T61 l (p.length : Int) = n := by rw [← hp]; exact rd61_app p s n
    have hw : wrap64 ((p.length : Int) + 1) = (p.length : Int) + 1 := wrn _ (by omega)
    have ih := fun u hu => planl_ev l hl s (p ++ [n]) u (by rw [← hp]; simp) hu
    simp only [len_snoc] at ih
    have he : l.isEmpty = false := by rw [← hp]; simp
    rw [he] at ih ⊢
    simp only [Bool.not_false, Bool.true_and] at ih ⊢
    have hlf : (0 ≤ n.f0 ∧ n.f0 ≤ 2) → Ev (fun k => boxpack_plan.j1 k l u (p.length : Int) l (l.length : Int) (p.length : Int) n.f0 true n.f0 n.f1 n.f2 n.f3 n.f4 n.f5 n.f6) (fmR l.length (n :: s) p.length u) := by
      intro h02
      rw [fmR_cons]
      by_cases a : okLeaf n = true
      · rw [if_pos a]
        obtain ⟨_, ⟨e2, e3, e4, e5, e6⟩, e1⟩ := leaf_iff.1 a
        refine Ev.step (f := fun k => boxpack_plan.l0 k l u l (l.length : Int) ((p.length : Int) + 1)) (fun k => ?_) (ih u hu)
        rw [boxpack_plan.j1, if_pos rfl, if_pos e2, if_pos e3, if_pos e4, if_pos e5, if_pos e6, hw]
        by_cases e0 : n.f0 = 0
        · rw [if_pos e0, if_pos (e1 e0)]
        · rw [if_neg e0]
      · rw [if_neg a, if_neg (fun hh => by have := (cut_iff.1 hh).1; omega)]
        refine Ev.const1 (fun k => ?_)
        rw [boxpack_plan.j1, if_pos rfl]
        by_cases e2 : n.f2 = 0
        · rw [if_pos e2]
          by_cases e3 : n.f3 = 0
          · rw [if_pos e3]
            by_cases e4 : n.f4 = 0
            · rw [if_pos e4]
              by_cases e5 : n.f5 = 0
              · rw [if_pos e5]
                by_cases e6 : n.f6 = 0
                · rw [if_pos e6]
                  by_cases e0 : n.f0 = 0
                  · rw [if_pos e0]
                    by_cases e1 : n.f1.toList = []
                    · exact absurd (leaf_iff.2 ⟨h02, ⟨e2, e3, e4, e5, e6⟩, fun _ => e1⟩) a
                    · rw [if_neg e1]
                  · exact absurd (leaf_iff.2 ⟨h02, ⟨e2, e3, e4, e5, e6⟩, fun h => absurd h e0⟩) a
                · rw [if_neg e6]
              · rw [if_neg e5]
            · rw [if_neg e4]
          · rw [if_neg e3]
        · rw [if_neg e2]
    have hst : ∀ k, boxpack_plan.l0 (k + 1) l u l (l.length : Int) (p.length : Int) = boxpack_plan.j1 k l u (p.length : Int) l (l.length : Int) (p.length : Int) n.f0 (decide (0 ≤ n.f0 ∧ n.f0 ≤ 2)) n.f0 n.f1 n.f2 n.f3 n.f4 n.f5 n.f6 := by
      intro k
      rw [boxpack_plan.l0, if_pos h2, if_pos (by omega), if_pos h2, hx]
      by_cases e0 : n.f0 = 0
      · rw [if_pos e0, e0]; rfl
      · rw [if_neg e0]
        by_cases e1 : n.f0 = 1
        · rw [if_pos e1, e1]; rfl
        · rw [if_neg e1]
          congr 1
          rw [Bool.eq_iff_iff, beq_iff_eq, decide_eq_true_eq]
          omega
    refine Ev.step (f := fun k => boxpack_plan.j1 k l u (p.length : Int) l (l.length : Int) (p.length : Int) n.f0 (decide (0 ≤ n.f0 ∧ n.f0 ≤ 2)) n.f0 n.f1 n.f2 n.f3 n.f4 n.f5 n.f6) hst ?_
    by_cases h02 : 0 ≤ n.f0 ∧ n.f0 ≤ 2
    · rw [decide_eq_true h02]
      exact hlf h02
    · rw [decide_eq_false h02, fmR_cons, if_neg (fun hh => h02 (leaf_iff.1 hh).1)]
      by_cases h3 : n.f0 = 3
      · have hj2 : ∀ b : Bool, (b = false → n.f5 ≠ n.f6) → Ev (fun k => boxpack_plan.j2 k l u (p.length : Int) l (l.length : Int) (p.length : Int) b n.f0 n.f1 n.f2 n.f3 n.f4 n.f5 n.f6) (!b && (decide (((p.length : Int) < n.f5 ∧ n.f5 < (l.length : Int)) ∧ ((p.length : Int) < n.f6 ∧ n.f6 < (l.length : Int))) && fmR l.length s (p.length + 1) (bump (bump u n.f5) n.f6))) := by
          intro b hb
          refine Ev.step (f := fun k => if b = true then some false else boxpack_plan.l1 k l u (p.length : Int) l (l.length : Int) (p.length : Int) 0 n.f5 n.f6) (fun k => rfl) ?_
          cases b
          · exact plan1_ev l _ (by omega) n u hu _ (hb rfl) (fun _ _ => by rw [hw]; exact ih _ (by rw [bump_len, bump_len, hu]))
          · exact Ev.now _
        have hsp : ∀ b : Bool, (b = false ↔ (0 ≤ n.f2 ∧ n.f2 ≤ 2) ∧ n.f1.toList = [] ∧ n.f5 ≠ n.f6) → (!b && (decide (((p.length : Int) < n.f5 ∧ n.f5 < (l.length : Int)) ∧ ((p.length : Int) < n.f6 ∧ n.f6 < (l.length : Int))) && fmR l.length s (p.length + 1) (bump (bump u n.f5) n.f6))) = (if okCut l.length p.length n = true then fmR l.length s (p.length + 1) (bump (bump u n.f5) n.f6) else false) := by
          intro b hb
          by_cases hc : okCut l.length p.length n = true
          · obtain ⟨_, a1, a2, a3, a4⟩ := cut_iff.1 hc
            rw [if_pos hc, hb.2 ⟨a1, a2, a3⟩, decide_eq_true a4]
            rfl
          · rw [if_neg hc]
            cases b
            · rw [decide_eq_false (fun hh => hc (cut_iff.2 ⟨h3, (hb.1 rfl).1, (hb.1 rfl).2.1, (hb.1 rfl).2.2, hh⟩))]
              rfl
            · rfl
        by_cases a0 : n.f2 < 0
        · rw [← hsp true (by simp; omega)]
          refine Ev.step (fun k => ?_) (hj2 true (by simp))
          rw [boxpack_plan.j1, if_neg (by decide), if_pos h3, if_pos a0]
        · by_cases a2 : n.f2 > 2
          · rw [← hsp true (by simp; omega)]
            refine Ev.step (fun k => ?_) (hj2 true (by simp))
            rw [boxpack_plan.j1, if_neg (by decide), if_pos h3, if_neg a0, if_pos a2]
          · by_cases a1 : n.f1.toList = []
            · rw [← hsp (n.f5 == n.f6) (by rw [beq_eq_false_iff_ne]; exact ⟨fun h => ⟨by omega, a1, h⟩, fun h => h.2.2⟩)]
              refine Ev.step (fun k => ?_) (hj2 (n.f5 == n.f6) (fun h => beq_eq_false_iff_ne.1 h))
              rw [boxpack_plan.j1, if_neg (by decide), if_pos h3, if_neg a0, if_neg a2, if_pos a1]
            · rw [← hsp true ⟨fun h => absurd h (by decide), fun h => absurd h.2.1 a1⟩]
              refine Ev.step (fun k => ?_) (hj2 true (by simp))
              rw [boxpack_plan.j1, if_neg (by decide), if_pos h3, if_neg a0, if_neg a2, if_neg a1]
      · rw [if_neg (fun hh => h3 (cut_iff.1 hh).1)]
        refine Ev.const1 (fun k => ?_)
        rw [boxpack_plan.j1, if_neg (by decide), if_neg h3]
theorem plan_ev (l : List S61) (hl : l.length < 1000000) : Ev (fun k => boxpack_plan.f k l) (formB l) := by
  refine Ev.congr (f := fun k => boxpack_plan.l0 k l (List.replicate l.length 0) l (l.length : Int) 0) (fun k => ?_) (planl_ev l hl l [] _ rfl (by simp))
  show boxpack_plan.f k l = _
  unfold boxpack_plan.f
  rw [if_pos (by omega), if_pos (by omega), Int.toNat_natCast]

theorem all1_ev (u : List Int) (hl : u.length < 1000000) : ∀ (s p : List Int), p ++ s = u → Ev (fun k => rf_formed.l1 k u (p.length : Int)) (s.all (fun v => v == 1))
  | [], p, hp => by
    refine Ev.const1 (fun k => ?_)
    rw [rf_formed.l1, if_neg (by rw [← hp]; simp)]
    rfl
  | v :: s, p, hp => by
    have h2 : (p.length : Int) < (u.length : Int) := by rw [← hp]; exact len_app p s v
    have hx : rd u (p.length : Int) = v := by rw [← hp]; exact rd_app p s v
    have ih := all1_ev u hl s (p ++ [v]) (by rw [← hp]; simp)
    rw [len_snoc] at ih
    refine Ev.step (f := fun k => if v = 1 then rf_formed.l1 k u ((p.length : Int) + 1) else some false) (fun k => ?_) ?_
    · rw [rf_formed.l1, if_pos h2, if_pos (by omega), hx, wrn _ (by omega)]
    · rw [List.all_cons]
      by_cases hv : v = 1
      · simp only [if_pos hv, hv, beq_self_eq_true, Bool.true_and]
        exact ih
      · simp only [if_neg hv, beq_eq_false_iff_ne.2 hv, Bool.false_and]
        exact Ev.now _
theorem fin_ev (u : List Int) (hl : u.length < 1000000) (hu : 0 < u.length) : Ev (fun k => rf_formed.l1 k u 1) (finB u) := by
  cases u with
  | nil => simp at hu
  | cons a s => exact all1_ev (a :: s) hl s [a] rfl
theorem fj_ev (l : List S61) (hl : l.length < 1000000) (i : Int) (h0 : 0 ≤ i) (n : S61) (u : List Int) (hu : u.length = l.length) (R : Bool)
    (hR : (i < n.f5 ∧ n.f5 < (l.length : Int)) → (i < n.f6 ∧ n.f6 < (l.length : Int)) → Ev (fun k => rf_formed.l0 k l (bump (bump u n.f5) n.f6) (wrap64 (i + 1))) R) (b : Bool) (hb : b = false → (i < n.f5 ∧ n.f5 < (l.length : Int)) ∧ (i < n.f6 ∧ n.f6 < (l.length : Int))) :
    Ev (fun k => rf_formed.j1 k l u i b n.f0 n.f1 n.f2 n.f3 n.f4 n.f5 n.f6) (!b && R) := by
  cases b
  · obtain ⟨h5, h6⟩ := hb rfl
    refine Ev.step (f := fun k => rf_formed.l0 k l (bump (bump u n.f5) n.f6) (wrap64 (i + 1))) (fun k => ?_) (hR h5 h6)
    rw [rf_formed.j1, if_neg (by decide), if_pos (by omega), if_pos (by omega)]
    simp only [Option.bind_some]
    rw [if_pos (by omega), if_pos (by omega)]
    rfl
  · exact Ev.const1 (fun k => rfl)
theorem forml_ev (l : List S61) (hl : l.length < 1000000) : ∀ (s p : List S61) (u : List Int), p ++ s = l → u.length = l.length → 0 < l.length → Ev (fun k => rf_formed.l0 k l u (p.length : Int)) (fmR l.length s p.length u)
  | [], p, u, hp, hu, hl0 => by
    refine Ev.step (f := fun k => rf_formed.l1 k u 1) (fun k => ?_) (fin_ev u (by omega) (by omega))
    rw [rf_formed.l0, if_neg (by rw [← hp]; simp)]
  | n :: s, p, u, hp, hu, hl0 => by
    have h2 : (p.length : Int) < (l.length : Int) := by rw [← hp]; exact len_app p s n
    have hx : rd_T61 l (p.length : Int) = n := by rw [← hp]; exact rd61_app p s n
    have hw : wrap64 ((p.length : Int) + 1) = (p.length : Int) + 1 := wrn _ (by omega)
    have ih := fun u hu => forml_ev l hl s (p ++ [n]) u (by rw [← hp]; simp) hu hl0
    simp only [len_snoc] at ih
    rw [fmR_cons]
    by_cases h3 : n.f0 = 3
    · have hl1 : ¬ okLeaf n = true := fun hh => by have := (leaf_iff.1 hh).1; omega
      rw [if_neg hl1]
      have hj := fun b hb => fj_ev l hl (p.length : Int) (by omega) n u hu _ (fun _ _ => by rw [hw]; exact ih _ (by rw [bump_len, bump_len, hu])) b hb
      have hsp : ∀ b : Bool, (b = false ↔ (0 ≤ n.f2 ∧ n.f2 ≤ 2) ∧ n.f1.toList = [] ∧ n.f5 ≠ n.f6 ∧ ((p.length : Int) < n.f5 ∧ n.f5 < (l.length : Int)) ∧ ((p.length : Int) < n.f6 ∧ n.f6 < (l.length : Int))) → (!b && (fmR l.length s (p.length + 1) (bump (bump u n.f5) n.f6))) = (if okCut l.length p.length n = true then fmR l.length s (p.length + 1) (bump (bump u n.f5) n.f6) else false) := by
        intro b hb
        by_cases hc : okCut l.length p.length n = true
        · rw [if_pos hc, hb.2 (cut_iff.1 hc).2]
          rfl
        · rw [if_neg hc]
          cases b
          · exact absurd (cut_iff.2 ⟨h3, hb.1 rfl⟩) hc
          · rfl
      have ht := fun (hne : ¬ ((0 ≤ n.f2 ∧ n.f2 ≤ 2) ∧ n.f1.toList = [] ∧ n.f5 ≠ n.f6 ∧ ((p.length : Int) < n.f5 ∧ n.f5 < (l.length : Int)) ∧ ((p.length : Int) < n.f6 ∧ n.f6 < (l.length : Int)))) => hsp true ⟨fun h => absurd h (by decide), fun h => absurd h hne⟩
      by_cases a1 : n.f1.toList = []
      · by_cases a2 : n.f2 < 0
        · rw [← ht (fun h => by omega)]
          refine Ev.step (fun k => ?_) (hj true (by simp))
          rw [rf_formed.l0, if_pos h2, if_pos (by omega), hx, if_pos h3, if_pos a1, if_pos a2]
        · by_cases a3 : n.f2 > 2
          · rw [← ht (fun h => by omega)]
            refine Ev.step (fun k => ?_) (hj true (by simp))
            rw [rf_formed.l0, if_pos h2, if_pos (by omega), hx, if_pos h3, if_pos a1, if_neg a2, if_pos a3]
          · by_cases a4 : n.f5 = n.f6
            · rw [← ht (fun h => by omega)]
              refine Ev.step (fun k => ?_) (hj true (by simp))
              rw [rf_formed.l0, if_pos h2, if_pos (by omega), hx, if_pos h3, if_pos a1, if_neg a2, if_neg a3, if_pos a4]
            · by_cases a5 : n.f5 ≤ (p.length : Int)
              · rw [← ht (fun h => by omega)]
                refine Ev.step (fun k => ?_) (hj true (by simp))
                rw [rf_formed.l0, if_pos h2, if_pos (by omega), hx, if_pos h3, if_pos a1, if_neg a2, if_neg a3, if_neg a4, if_pos a5]
              · by_cases a6 : n.f5 ≥ (l.length : Int)
                · rw [← ht (fun h => by omega)]
                  refine Ev.step (fun k => ?_) (hj true (by simp))
                  rw [rf_formed.l0, if_pos h2, if_pos (by omega), hx, if_pos h3, if_pos a1, if_neg a2, if_neg a3, if_neg a4, if_neg a5, if_pos a6]
                · by_cases a7 : n.f6 ≤ (p.length : Int)
                  · rw [← ht (fun h => by omega)]
                    refine Ev.step (fun k => ?_) (hj true (by simp))
                    rw [rf_formed.l0, if_pos h2, if_pos (by omega), hx, if_pos h3, if_pos a1, if_neg a2, if_neg a3, if_neg a4, if_neg a5, if_neg a6, if_pos a7]
                  · have hd : decide (n.f6 ≥ (l.length : Int)) = false ↔ n.f6 < (l.length : Int) := by rw [decide_eq_false_iff_not]; omega
                    rw [← hsp (decide (n.f6 ≥ (l.length : Int))) (by rw [hd]; exact ⟨fun h => ⟨by omega, a1, a4, by omega, by omega⟩, fun h => h.2.2.2.2.2⟩)]
                    refine Ev.step (fun k => ?_) (hj _ (fun h => by have := hd.1 h; omega))
                    rw [rf_formed.l0, if_pos h2, if_pos (by omega), hx, if_pos h3, if_pos a1, if_neg a2, if_neg a3, if_neg a4, if_neg a5, if_neg a6, if_neg a7]
      · rw [← ht (fun h => a1 h.2.1)]
        refine Ev.step (fun k => ?_) (hj true (by simp))
        rw [rf_formed.l0, if_pos h2, if_pos (by omega), hx, if_pos h3, if_neg a1]
    · rw [if_neg (fun hh : okCut l.length p.length n = true => h3 (cut_iff.1 hh).1)]
      by_cases a : okLeaf n = true
      · rw [if_pos a]
        obtain ⟨e0, ⟨e2, e3, e4, e5, e6⟩, e1⟩ := leaf_iff.1 a
        refine Ev.step (f := fun k => rf_formed.l0 k l u ((p.length : Int) + 1)) (fun k => ?_) (ih u hu)
        rw [rf_formed.l0, if_pos h2, if_pos (by omega), hx, if_neg h3, if_neg (by omega), if_neg (by omega), if_pos e2, if_pos e3, if_pos e4, if_pos e5, if_pos e6, hw]
        by_cases e : n.f0 = 0
        · rw [if_pos e, if_pos (e1 e)]
        · rw [if_neg e]
      · rw [if_neg a]
        refine Ev.const1 (fun k => ?_)
        rw [rf_formed.l0, if_pos h2, if_pos (by omega), hx, if_neg h3]
        by_cases b0 : n.f0 < 0
        · rw [if_pos b0]
        rw [if_neg b0]
        by_cases b1 : n.f0 > 2
        · rw [if_pos b1]
        rw [if_neg b1]
        by_cases e2 : n.f2 = 0
        · rw [if_pos e2]
          by_cases e3 : n.f3 = 0
          · rw [if_pos e3]
            by_cases e4 : n.f4 = 0
            · rw [if_pos e4]
              by_cases e5 : n.f5 = 0
              · rw [if_pos e5]
                by_cases e6 : n.f6 = 0
                · rw [if_pos e6]
                  by_cases e : n.f0 = 0
                  · rw [if_pos e]
                    by_cases e1 : n.f1.toList = []
                    · exact absurd (leaf_iff.2 ⟨by omega, ⟨e2, e3, e4, e5, e6⟩, fun _ => e1⟩) a
                    · rw [if_neg e1]
                  · exact absurd (leaf_iff.2 ⟨by omega, ⟨e2, e3, e4, e5, e6⟩, fun h => absurd h e⟩) a
                · rw [if_neg e6]; simp
              · rw [if_neg e5]; simp
            · rw [if_neg e4]; simp
          · rw [if_neg e3]; simp
        · rw [if_neg e2]; simp
theorem formed_ev (l : List S61) (hl : l.length < 1000000) : Ev (fun k => rf_formed.f k l) (formB l) := by
  unfold rf_formed.f formB
  by_cases h : (l.length : Int) = 0
  · simp only [if_pos h, List.isEmpty_iff.2 (List.length_eq_zero_iff.1 (show l.length = 0 by omega)), Bool.not_true, Bool.false_and]
    exact Ev.now _
  · simp only [if_neg h, if_pos (show 0 ≤ (l.length : Int) by omega), Int.toNat_natCast, if_pos (show l.length ≤ 35184372088832 by omega)]
    refine Ev.eq (forml_ev l hl l [] _ rfl (by simp) (by omega)) ?_
    cases l
    · simp at h
    · rfl

def add23 (p b : S23) : S23 := ⟨b.f0 + p.f0, b.f1 + p.f1, b.f2 + p.f2⟩
def bxs (ps bs : List S23) : List S73 := List.zipWith (fun p b => (⟨b, add23 p b⟩ : S73)) ps bs
theorem get_add (p b : S23) (ax : Int) (ha : 0 ≤ ax ∧ ax ≤ 2) : getAx (add23 p b) ax = getAx b ax + getAx p ax := by
  have h1 : ax = 0 ∨ ax = 1 ∨ ax = 2 := by omega
  rcases h1 with rfl | rfl | rfl <;> rfl
theorem zip_set {α β γ : Type} (f : α → β → γ) : ∀ (a : List α) (b : List β) (k : Nat) (x : α) (y : β), (List.zipWith f a b).set k (f x y) = List.zipWith f (a.set k x) (b.set k y)
  | [], _, _, _, _ => by simp
  | _ :: _, [], _, _, _ => by simp
  | _ :: a, _ :: b, 0, _, _ => by simp
  | _ :: a, _ :: b, k + 1, x, y => by simp [zip_set f a b k x y]
theorem bxs_len (ps bs : List S23) (h : ps.length = bs.length) : (bxs ps bs).length = ps.length := by unfold bxs; simp [h]
theorem bxs_rd (ps bs : List S23) (h : ps.length = bs.length) (i : Int) : rd_T73 (bxs ps bs) i = ⟨rd_T23 bs i, add23 (rd_T23 ps i) (rd_T23 bs i)⟩ := by
  unfold rd_T73 rd_T23 bxs
  simp only [List.getD_eq_getElem?_getD, List.getElem?_zipWith]
  by_cases hi : i.toNat < ps.length
  · rw [List.getElem?_eq_getElem hi, List.getElem?_eq_getElem (show i.toNat < bs.length by omega)]
    rfl
  · rw [List.getElem?_eq_none (by omega), List.getElem?_eq_none (show bs.length ≤ i.toNat by omega)]
    rfl
theorem bxs_set (ps bs : List S23) (k : Nat) (p b : S23) : (bxs ps bs).set k ⟨b, add23 p b⟩ = bxs (ps.set k p) (bs.set k b) := zip_set (fun p b => (⟨b, add23 p b⟩ : S73)) ps bs k p b
theorem rd23_set (ps : List S23) (k : Nat) (p : S23) (x : Int) (hk : k < ps.length) : rd_T23 (ps.set k p) x = if x.toNat = k then p else rd_T23 ps x := by
  unfold rd_T23
  rw [List.getD_eq_getElem?_getD, List.getElem?_set]
  by_cases h : k = x.toNat
  · rw [if_pos h, if_pos (by omega), if_pos h.symm]; rfl
  · rw [if_neg h, if_neg (fun hh => h hh.symm), List.getD_eq_getElem?_getD]
def PB (p b : S23) : Prop := (0 ≤ p.f0 ∧ 0 ≤ b.f0 ∧ p.f0 + b.f0 ≤ 24) ∧ (0 ≤ p.f1 ∧ 0 ≤ b.f1 ∧ p.f1 + b.f1 ≤ 24) ∧ (0 ≤ p.f2 ∧ 0 ≤ b.f2 ∧ p.f2 + b.f2 ≤ 24)
theorem PB.ax {p b : S23} (h : PB p b) {ax : Int} (ha : 0 ≤ ax ∧ ax ≤ 2) : 0 ≤ getAx p ax ∧ 0 ≤ getAx b ax ∧ getAx p ax + getAx b ax ≤ 24 := by
  unfold PB at h
  have h1 : ax = 0 ∨ ax = 1 ∨ ax = 2 := by omega
  rcases h1 with rfl | rfl | rfl
  · exact h.1
  · exact h.2.1
  · exact h.2.2
theorem PB.set {p b : S23} (h : PB p b) {ax v w : Int} (ha : 0 ≤ ax ∧ ax ≤ 2) (hv : 0 ≤ v) (hw : 0 ≤ w) (hvw : v + w ≤ 24) : PB (setAx p ax v) (setAx b ax w) := by
  unfold PB at h ⊢
  have h1 : ax = 0 ∨ ax = 1 ∨ ax = 2 := by omega
  rcases h1 with rfl | rfl | rfl
  · exact ⟨⟨hv, hw, hvw⟩, h.2⟩
  · exact ⟨h.1, ⟨hv, hw, hvw⟩, h.2.2⟩
  · exact ⟨h.1, h.2.1, ⟨hv, hw, hvw⟩⟩
theorem set_get (s : S23) (ax : Int) : setAx s ax (getAx s ax) = s := by
  unfold setAx getAx
  by_cases a : ax = 0
  · rw [if_pos a, if_pos a]
  · rw [if_neg a, if_neg a]
    by_cases b : ax = 1
    · rw [if_pos b, if_pos b]
    · rw [if_neg b, if_neg b]
def PBs (ps bs : List S23) : Prop := ∀ x : Int, PB (rd_T23 ps x) (rd_T23 bs x)
theorem PBs.set {ps bs : List S23} (h : PBs ps bs) (hl : ps.length = bs.length) {k : Nat} (hk : k < ps.length) {p b : S23} (hp : PB p b) : PBs (ps.set k p) (bs.set k b) := fun x => by
  rw [rd23_set ps k p x hk, rd23_set bs k b x (by omega)]
  by_cases e : x.toNat = k
  · rw [if_pos e, if_pos e]; exact hp
  · rw [if_neg e, if_neg e]; exact h x
theorem iteml_ev (n : S23) (kf : Int) (its : List S56) (hi : its.length < 1000000) (nm : ByteArray) : ∀ (s p : List S56), p ++ s = its → Ev (fun k => rf_item.l0 k nm (p.length : Int) n.f0 n.f1 n.f2 kf its) (itemIx s nm p.length)
  | [], p, hp => by
    refine Ev.const1 (fun k => ?_)
    rw [rf_item.l0, if_neg (by rw [← hp]; simp), itemIx]
  | x :: s, p, hp => by
    have h2 : (p.length : Int) < (its.length : Int) := by rw [← hp]; exact len_app p s x
    have hx : rd_T56 its (p.length : Int) = x := by rw [← hp]; exact rd56_app p s x
    have ih := iteml_ev n kf its hi nm s (p ++ [x]) (by rw [← hp]; simp)
    rw [len_snoc, show (p ++ [x]).length = p.length + 1 by simp] at ih
    refine Ev.step (f := fun k => if x.f0.toList = nm.toList then some (p.length : Int) else rf_item.l0 k nm ((p.length : Int) + 1) n.f0 n.f1 n.f2 kf its) (fun k => ?_) ?_
    · rw [rf_item.l0, if_pos h2, if_pos (by omega), hx, wrn _ (by omega)]
    · rw [itemIx]
      by_cases e : x.f0.toList = nm.toList
      · simp only [if_pos e]
        exact Ev.now _
      · simp only [if_neg e]
        exact ih
theorem itemf_ev (n : S23) (kf : Int) (its : List S56) (hi : its.length < 1000000) (nm : ByteArray) : Ev (fun k => rf_item.f k n.f0 n.f1 n.f2 kf its nm) (itemIx its nm 0) := iteml_ev n kf its hi nm its [] rfl
def cutP (kf : Int) (n : S61) (i : Int) (ps bs : List S23) : List S23 :=
  (ps.set n.f5.toNat (setAx (rd_T23 ps i) n.f2 (n.f3 - getAx (rd_T23 bs i) n.f2))).set n.f6.toNat (setAx (rd_T23 ps i) n.f2 (getAx (rd_T23 ps i) n.f2 - (n.f3 - getAx (rd_T23 bs i) n.f2) - kf))
def cutB (kf : Int) (n : S61) (i : Int) (bs : List S23) : List S23 := (bs.set n.f5.toNat (rd_T23 bs i)).set n.f6.toNat (setAx (rd_T23 bs i) n.f2 (n.f3 + kf))
def cutIn (kf : Int) (n : S61) (p b : S23) : Prop := n.f4 = kf ∧ getAx b n.f2 < n.f3 ∧ n.f3 + kf < getAx b n.f2 + getAx p n.f2
instance (kf : Int) (n : S61) (p b : S23) : Decidable (cutIn kf n p b) := by unfold cutIn; infer_instance
theorem valF_prod {kf : Int} {its : List S56} {n : S61} {ns : List S61} {i : Nat} {ps bs : List S23} {t : Int} (h : n.f0 = 1) : valF kf its (n :: ns) i ps bs t = if itemIx its n.f1 0 < 0 then some (0, 3)
      else if fitsB (rd_T56 its (itemIx its n.f1 0)).f1 (rd_T23 ps i) = true then valF kf its ns (i + 1) ps bs (wrap64 (t + (rd_T56 its (itemIx its n.f1 0)).f2)) else some (0, 12) := by
  rw [valF, if_pos h]
theorem valF_other {kf : Int} {its : List S56} {n : S61} {ns : List S61} {i : Nat} {ps bs : List S23} {t : Int} (h : n.f0 ≠ 1) (h3 : n.f0 ≠ 3) : valF kf its (n :: ns) i ps bs t = valF kf its ns (i + 1) ps bs t := by
  rw [valF, if_neg h, if_neg h3]
theorem valF_cut {kf : Int} {its : List S56} {n : S61} {ns : List S61} {i : Nat} {ps bs : List S23} {t : Int} (hk : 0 ≤ kf ∧ kf ≤ 24) (hp : PB (rd_T23 ps i) (rd_T23 bs i)) (hc : okCut ps.length i n = true) :
    valF kf its (n :: ns) i ps bs t = if cutIn kf n (rd_T23 ps i) (rd_T23 bs i) then valF kf its ns (i + 1) (cutP kf n i ps bs) (cutB kf n i bs) t else some (0, 6) := by
  obtain ⟨h3, ha, _, _, h5, h6⟩ := cut_iff.1 hc
  have hx := hp.ax ha
  rw [valF, if_neg (by omega), if_pos h3, if_pos ⟨ha, by omega, by omega⟩]
  by_cases hin : cutIn kf n (rd_T23 ps i) (rd_T23 bs i)
  · rw [if_pos hin]
    unfold cutIn at hin
    rw [if_pos ⟨hin.1, by omega, by rw [wr (x := getAx (rd_T23 bs i) n.f2 + getAx (rd_T23 ps i) n.f2) (by omega), wr (by omega)]; omega⟩]
    rw [wr (x := n.f3 - getAx (rd_T23 bs i) n.f2) (by omega), wr (x := getAx (rd_T23 ps i) n.f2 - (n.f3 - getAx (rd_T23 bs i) n.f2)) (by omega), wr (x := getAx (rd_T23 ps i) n.f2 - (n.f3 - getAx (rd_T23 bs i) n.f2) - kf) (by omega),
      wr (x := n.f3 - getAx (rd_T23 bs i) n.f2 + kf) (by omega), wr (by omega), show getAx (rd_T23 bs i) n.f2 + (n.f3 - getAx (rd_T23 bs i) n.f2 + kf) = n.f3 + kf by omega]
    rfl
  · rw [if_neg hin]
    unfold cutIn at hin
    rw [if_neg]
    rintro ⟨a, b, c⟩
    rw [wr (x := getAx (rd_T23 bs i) n.f2 + getAx (rd_T23 ps i) n.f2) (by omega), wr (by omega)] at c
    exact hin ⟨a, by omega, by omega⟩
theorem cut_len (kf : Int) (n : S61) (i : Int) (ps bs : List S23) : (cutP kf n i ps bs).length = ps.length ∧ (cutB kf n i bs).length = bs.length := by
  unfold cutP cutB
  simp
theorem cut_PBs {kf : Int} (hk : 0 ≤ kf) {n : S61} {i : Int} {ps bs : List S23} (hl : ps.length = bs.length) (h : PBs ps bs) (hc : okCut ps.length i n = true) (h0 : 0 ≤ i) (hin : cutIn kf n (rd_T23 ps i) (rd_T23 bs i)) : PBs (cutP kf n i ps bs) (cutB kf n i bs) := by
  obtain ⟨h3, ha, _, _, h5, h6⟩ := cut_iff.1 hc
  have hx := (h i).ax ha
  unfold cutIn at hin
  unfold cutP cutB
  refine PBs.set (PBs.set h hl (by omega) ?_) (by simp [hl]) (by simp; omega) ((h i).set ha (by omega) (by omega) (by omega))
  have := (h i).set ha (v := n.f3 - getAx (rd_T23 bs i) n.f2) (w := getAx (rd_T23 bs i) n.f2) (by omega) (by omega) (by omega)
  rw [set_get] at this
  exact this
theorem valF_some {kf : Int} {its : List S56} (hk : 0 ≤ kf ∧ kf ≤ 24) : ∀ (s : List S61) (i : Nat) (u u' : List Int) (ps bs : List S23) (t : Int), fmF ps.length s i u = some u' → ps.length = bs.length → PBs ps bs → ∃ r, valF kf its s i ps bs t = some r
  | [], i, u, u', ps, bs, t, hf, hl, h => ⟨_, rfl⟩
  | n :: s, i, u, u', ps, bs, t, hf, hl, h => by
    rw [fmF] at hf
    by_cases a : okLeaf n = true
    · rw [if_pos a] at hf
      have ih := fun t => valF_some (its := its) hk s (i + 1) u u' ps bs t hf hl h
      by_cases e1 : n.f0 = 1
      · rw [valF_prod e1]
        by_cases q0 : itemIx its n.f1 0 < 0
        · rw [if_pos q0]; exact ⟨_, rfl⟩
        · rw [if_neg q0]
          by_cases q1 : fitsB (rd_T56 its (itemIx its n.f1 0)).f1 (rd_T23 ps i) = true
          · rw [if_pos q1]; exact ih _
          · rw [if_neg q1]; exact ⟨_, rfl⟩
      · rw [valF_other e1 (by have := (leaf_iff.1 a).1; omega)]
        exact ih t
    · rw [if_neg a] at hf
      by_cases hc : okCut ps.length i n = true
      · rw [if_pos hc] at hf
        have hlen := cut_len kf n i ps bs
        rw [valF_cut hk (h _) hc]
        by_cases hin : cutIn kf n (rd_T23 ps i) (rd_T23 bs i)
        · rw [if_pos hin]
          exact valF_some hk s (i + 1) _ u' _ _ t (by rw [hlen.1]; exact hf) (by rw [hlen.1, hlen.2, hl]) (cut_PBs hk.1 hl h hc (by omega) hin)
        · rw [if_neg hin]; exact ⟨_, rfl⟩
      · rw [if_neg hc] at hf
        exact absurd hf (by simp)

theorem size3_eq {p b : S23} (h : PB p b) : rf_size3.f b.f0 b.f1 b.f2 (add23 p b).f0 (add23 p b).f1 (add23 p b).f2 = some (p.f0, p.f1, p.f2) := by
  unfold PB at h
  unfold rf_size3.f add23
  dsimp only
  rw [wr (by omega), wr (by omega), wr (by omega), show b.f0 + p.f0 - b.f0 = p.f0 by omega, show b.f1 + p.f1 - b.f1 = p.f1 by omega, show b.f2 + p.f2 - b.f2 = p.f2 by omega]
theorem add_set (p b : S23) (ax v : Int) (ha : 0 ≤ ax ∧ ax ≤ 2) : setAx (add23 p b) ax v = add23 (setAx p ax (v - getAx b ax)) b := by
  have h1 : ax = 0 ∨ ax = 1 ∨ ax = 2 := by omega
  rcases h1 with rfl | rfl | rfl
  · exact S23.ext' (show v = b.f0 + (v - b.f0) by omega) rfl rfl
  · exact S23.ext' rfl (show v = b.f1 + (v - b.f1) by omega) rfl
  · exact S23.ext' rfl rfl (show v = b.f2 + (v - b.f2) by omega)
theorem add_set2 (p b : S23) (ax v kf : Int) (ha : 0 ≤ ax ∧ ax ≤ 2) : add23 (setAx p ax (getAx p ax - (v - getAx b ax) - kf)) (setAx b ax (v + kf)) = add23 p b := by
  have h1 : ax = 0 ∨ ax = 1 ∨ ax = 2 := by omega
  rcases h1 with rfl | rfl | rfl
  · exact S23.ext' (show v + kf + (p.f0 - (v - b.f0) - kf) = b.f0 + p.f0 by omega) rfl rfl
  · exact S23.ext' rfl (show v + kf + (p.f1 - (v - b.f1) - kf) = b.f1 + p.f1 by omega) rfl
  · exact S23.ext' rfl rfl (show v + kf + (p.f2 - (v - b.f2) - kf) = b.f2 + p.f2 by omega)
theorem rcut_ev {n : S23} {kf : Int} {its : List S56} (hk : 0 ≤ kf ∧ kf ≤ 24) {l : List S61} (hl : l.length < 1000000) {nd : S61} {i : Int} (h0 : 0 ≤ i) (hi : i < (l.length : Int)) (hx : rd_T61 l i = nd) {ps bs : List S23} (hp : ps.length = l.length) (hb : bs.length = l.length) (h : PBs ps bs) (hc : okCut l.length i nd = true) {t : Int} {R : Int × Int}
    (hR : cutIn kf nd (rd_T23 ps i) (rd_T23 bs i) → Ev (fun k => rf_Value.l0 k l (bxs (cutP kf nd i ps bs) (cutB kf nd i bs)) t (wrap64 (i + 1)) n.f0 n.f1 n.f2 kf its) R) :
    Ev (fun k => rf_Value.l0 k l (bxs ps bs) t i n.f0 n.f1 n.f2 kf its) (if cutIn kf nd (rd_T23 ps i) (rd_T23 bs i) then R else (0, 6)) := by
  obtain ⟨h3, ha, _, hne, h5, h6⟩ := cut_iff.1 hc
  have hpl : (bxs ps bs).length = l.length := by rw [bxs_len _ _ (by omega), hp]
  have hax := (h i).ax ha
  have hga := get_add (rd_T23 ps i) (rd_T23 bs i) nd.f2 ha
  -- what the branch j1 does
  have hj : ∀ b : Bool, (b = false ↔ cutIn kf nd (rd_T23 ps i) (rd_T23 bs i)) → Ev (fun k => rf_Value.j1 k l (bxs ps bs) t i b n.f0 n.f1 n.f2 kf its nd.f0 nd.f1 nd.f2 nd.f3 nd.f4 nd.f5 nd.f6) (if cutIn kf nd (rd_T23 ps i) (rd_T23 bs i) then R else (0, 6)) := by
    intro b hb
    cases b
    · have hin := hb.1 rfl
      rw [if_pos hin]
      refine Ev.step (f := fun k => rf_Value.l0 k l (bxs (cutP kf nd i ps bs) (cutB kf nd i bs)) t (wrap64 (i + 1)) n.f0 n.f1 n.f2 kf its) (fun k => ?_) (hR hin)
      unfold cutIn at hin
      rw [rf_Value.j1, if_neg (by decide), if_pos h0, if_pos (by rw [hpl]; omega), bxs_rd _ _ (by omega)]
      dsimp only
      rw [with_eq (add23 (rd_T23 ps i) (rd_T23 bs i)) nd.f2 nd.f3 ha]
      simp only [Option.bind_some]
      rw [if_pos (by omega), if_pos (by rw [hpl]; omega)]
      have e1 : (⟨rd_T23 bs i, setAx (add23 (rd_T23 ps i) (rd_T23 bs i)) nd.f2 nd.f3⟩ : S73) = ⟨rd_T23 bs i, add23 (setAx (rd_T23 ps i) nd.f2 (nd.f3 - getAx (rd_T23 bs i) nd.f2)) (rd_T23 bs i)⟩ := by rw [add_set _ _ _ _ ha]
      have e1' : (bxs ps bs).set nd.f5.toNat (⟨(⟨(rd_T23 bs i).f0, (rd_T23 bs i).f1, (rd_T23 bs i).f2⟩ : S23), (⟨(setAx (add23 (rd_T23 ps i) (rd_T23 bs i)) nd.f2 nd.f3).f0, (setAx (add23 (rd_T23 ps i) (rd_T23 bs i)) nd.f2 nd.f3).f1, (setAx (add23 (rd_T23 ps i) (rd_T23 bs i)) nd.f2 nd.f3).f2⟩ : S23)⟩ : S73) = bxs (ps.set nd.f5.toNat (setAx (rd_T23 ps i) nd.f2 (nd.f3 - getAx (rd_T23 bs i) nd.f2))) (bs.set nd.f5.toNat (rd_T23 bs i)) := by
        rw [← bxs_set, ← e1]
      rw [e1', bxs_rd _ _ (by simp; omega), rd23_set ps _ _ _ (by omega), rd23_set bs _ _ _ (by omega), if_neg (by omega), if_neg (by omega), wr (x := nd.f3 + nd.f4) (by omega)]
      dsimp only
      rw [with_eq (rd_T23 bs i) nd.f2 _ ha]
      simp only [Option.bind_some]
      rw [if_pos (by omega), if_pos (by rw [hpl]; omega)]
      have e2 : (⟨setAx (rd_T23 bs i) nd.f2 (nd.f3 + nd.f4), add23 (rd_T23 ps i) (rd_T23 bs i)⟩ : S73) = ⟨setAx (rd_T23 bs i) nd.f2 (nd.f3 + kf), add23 (setAx (rd_T23 ps i) nd.f2 (getAx (rd_T23 ps i) nd.f2 - (nd.f3 - getAx (rd_T23 bs i) nd.f2) - kf)) (setAx (rd_T23 bs i) nd.f2 (nd.f3 + kf))⟩ := by
        rw [hin.1, ← add_set2 _ _ _ _ _ ha]
      have e2' : (bxs (ps.set nd.f5.toNat (setAx (rd_T23 ps i) nd.f2 (nd.f3 - getAx (rd_T23 bs i) nd.f2))) (bs.set nd.f5.toNat (rd_T23 bs i))).set nd.f6.toNat (⟨(⟨(setAx (rd_T23 bs i) nd.f2 (nd.f3 + nd.f4)).f0, (setAx (rd_T23 bs i) nd.f2 (nd.f3 + nd.f4)).f1, (setAx (rd_T23 bs i) nd.f2 (nd.f3 + nd.f4)).f2⟩ : S23), (⟨(add23 (rd_T23 ps i) (rd_T23 bs i)).f0, (add23 (rd_T23 ps i) (rd_T23 bs i)).f1, (add23 (rd_T23 ps i) (rd_T23 bs i)).f2⟩ : S23)⟩ : S73) = bxs (cutP kf nd i ps bs) (cutB kf nd i bs) := by
        exact (congrArg (fun z => List.set (bxs (ps.set nd.f5.toNat (setAx (rd_T23 ps i) nd.f2 (nd.f3 - getAx (rd_T23 bs i) nd.f2))) (bs.set nd.f5.toNat (rd_T23 bs i))) nd.f6.toNat z) e2).trans (bxs_set _ _ _ _ _)
      rw [e2']
    · rw [if_neg (fun hh => absurd (hb.2 hh) (by decide))]
      exact Ev.const1 (fun k => rfl)
  have hs : ∀ k, rf_Value.l0 (k + 1) l (bxs ps bs) t i n.f0 n.f1 n.f2 kf its = (if nd.f4 = kf then (if nd.f3 ≤ getAx (rd_T23 bs i) nd.f2 then (rf_Value.j1 k l (bxs ps bs) t i true n.f0 n.f1 n.f2 kf its nd.f0 nd.f1 nd.f2 nd.f3 nd.f4 nd.f5 nd.f6) else (if nd.f3 ≥ getAx (rd_T23 bs i) nd.f2 + getAx (rd_T23 ps i) nd.f2 then (rf_Value.j1 k l (bxs ps bs) t i true n.f0 n.f1 n.f2 kf its nd.f0 nd.f1 nd.f2 nd.f3 nd.f4 nd.f5 nd.f6) else (rf_Value.j1 k l (bxs ps bs) t i (decide ((wrap64 (nd.f3 + nd.f4)) ≥ getAx (rd_T23 bs i) nd.f2 + getAx (rd_T23 ps i) nd.f2)) n.f0 n.f1 n.f2 kf its nd.f0 nd.f1 nd.f2 nd.f3 nd.f4 nd.f5 nd.f6))) else (rf_Value.j1 k l (bxs ps bs) t i true n.f0 n.f1 n.f2 kf its nd.f0 nd.f1 nd.f2 nd.f3 nd.f4 nd.f5 nd.f6)) := by
    intro k
    rw [rf_Value.l0, if_pos hi, if_pos h0, hx, if_neg (by omega), if_pos h3, if_pos (by rw [hpl]; omega), bxs_rd _ _ (by omega)]
    dsimp only
    rw [side_eq (rd_T23 bs i) nd.f2 ha]
    simp only [Option.bind_some]
    rw [side_eq (add23 (rd_T23 ps i) (rd_T23 bs i)) nd.f2 ha]
    simp only [Option.bind_some]
    rw [hga]
  refine Ev.step hs ?_
  by_cases a : nd.f4 = kf
  · simp only [if_pos a]
    by_cases b : nd.f3 ≤ getAx (rd_T23 bs i) nd.f2
    · simp only [if_pos b]
      exact hj true ⟨fun h => absurd h (by decide), fun h => by unfold cutIn at h; omega⟩
    · simp only [if_neg b]
      by_cases c : nd.f3 ≥ getAx (rd_T23 bs i) nd.f2 + getAx (rd_T23 ps i) nd.f2
      · simp only [if_pos c]
        exact hj true ⟨fun h => absurd h (by decide), fun h => by unfold cutIn at h; omega⟩
      · simp only [if_neg c]
        refine hj _ ?_
        rw [wr (x := nd.f3 + nd.f4) (by omega), decide_eq_false_iff_not]
        unfold cutIn
        omega
  · simp only [if_neg a]
    exact hj true ⟨fun h => absurd h (by decide), fun h => absurd h.1 a⟩
theorem val_run {n : S23} {kf : Int} {its : List S56} (hk : 0 ≤ kf ∧ kf ≤ 24) (hi : its.length < 1000000) {l : List S61} (hl : l.length < 1000000) : ∀ (s p : List S61) (u u' : List Int) (ps bs : List S23) (t : Int), p ++ s = l → fmF l.length s p.length u = some u' → ps.length = l.length → bs.length = l.length → PBs ps bs →
    ∃ r, valF kf its s p.length ps bs t = some r ∧ Ev (fun k => rf_Value.l0 k l (bxs ps bs) t (p.length : Int) n.f0 n.f1 n.f2 kf its) r
  | [], p, u, u', ps, bs, t, hp, hf, h1, h2, h => by
    refine ⟨_, rfl, Ev.const1 (fun k => ?_)⟩
    rw [rf_Value.l0, if_neg (by rw [← hp]; simp)]
  | nd :: s, p, u, u', ps, bs, t, hp, hf, h1, h2, h => by
    have hlt : (p.length : Int) < (l.length : Int) := by rw [← hp]; exact len_app p s nd
    have hx : rd_T61 l (p.length : Int) = nd := by rw [← hp]; exact rd61_app p s nd
    have hw : wrap64 ((p.length : Int) + 1) = (p.length : Int) + 1 := wrn _ (by omega)
    have hpl : (bxs ps bs).length = l.length := by rw [bxs_len _ _ (by omega), h1]
    have hsn : (p ++ [nd]).length = p.length + 1 := by simp
    rw [fmF] at hf
    by_cases a : okLeaf nd = true
    · rw [if_pos a] at hf
      have ih := fun t => val_run (n := n) (its := its) hk hi hl s (p ++ [nd]) u u' ps bs t (by rw [← hp]; simp) (by rw [len_snoc]; exact hf) h1 h2 h
      rw [hsn] at ih
      have h02 := (leaf_iff.1 a).1
      by_cases e1 : nd.f0 = 1
      · rw [valF_prod e1]
        have hlt' := itemIx_lt nd.f1 its 0
        have hstep : ∀ R, Ev (fun k => if itemIx its nd.f1 0 < 0 then some (0, 3) else if fitsB (rd_T56 its (itemIx its nd.f1 0)).f1 (rd_T23 ps p.length) = true then rf_Value.l0 k l (bxs ps bs) (wrap64 (t + (rd_T56 its (itemIx its nd.f1 0)).f2)) ((p.length : Int) + 1) n.f0 n.f1 n.f2 kf its else some (0, 12)) R → Ev (fun k => rf_Value.l0 k l (bxs ps bs) t (p.length : Int) n.f0 n.f1 n.f2 kf its) R := by
          intro R hR
          refine Ev.step (f := fun k => (rf_item.f k n.f0 n.f1 n.f2 kf its nd.f1).bind fun t290 => if t290 < 0 then some (0, 3) else if 0 ≤ t290 then (if t290 < (its.length : Int) then (if fitsB (rd_T56 its t290).f1 (rd_T23 ps p.length) = true then rf_Value.l0 k l (bxs ps bs) (wrap64 (t + (rd_T56 its t290).f2)) ((p.length : Int) + 1) n.f0 n.f1 n.f2 kf its else some (0, 12)) else none) else none) (fun k => ?_) ?_
          · rw [rf_Value.l0, if_pos hlt, if_pos (by omega), hx, if_pos e1]
            congr 1
            funext q
            by_cases q0 : q < 0
            · rw [if_pos q0, if_pos q0]
            · rw [if_neg q0, if_neg q0]
              by_cases q1 : 0 ≤ q
              · rw [if_pos q1, if_pos q1]
                by_cases q2 : q < (its.length : Int)
                · rw [if_pos q2, if_pos q2, if_pos (show (p.length : Int) < ((bxs ps bs).length : Int) by rw [hpl]; exact hlt), bxs_rd _ _ (by omega)]
                  dsimp only
                  rw [size3_eq (h _)]
                  simp only [Option.bind_some]
                  rw [rfitsf (rd_T56 its q).f1 (rd_T23 ps p.length), hw]
                  rfl
                · rw [if_neg q2, if_neg q2]
              · rw [if_neg q1, if_neg q1]
          · refine Ev.bind (f := fun k t290 => if t290 < 0 then some (0, 3) else if 0 ≤ t290 then (if t290 < (its.length : Int) then (if fitsB (rd_T56 its t290).f1 (rd_T23 ps p.length) = true then rf_Value.l0 k l (bxs ps bs) (wrap64 (t + (rd_T56 its t290).f2)) ((p.length : Int) + 1) n.f0 n.f1 n.f2 kf its else some (0, 12)) else none) else none) (itemf_ev n kf its hi nd.f1) ?_
            by_cases q0 : itemIx its nd.f1 0 < 0
            · simp only [if_pos q0] at hR ⊢
              exact hR
            · simp only [if_neg q0, if_pos (show 0 ≤ itemIx its nd.f1 0 by omega), if_pos (show itemIx its nd.f1 0 < (its.length : Int) by omega)] at hR ⊢
              exact hR
        by_cases q0 : itemIx its nd.f1 0 < 0
        · rw [if_pos q0]
          exact ⟨_, rfl, hstep _ (by simp only [if_pos q0]; exact Ev.now _)⟩
        · rw [if_neg q0]
          by_cases q1 : fitsB (rd_T56 its (itemIx its nd.f1 0)).f1 (rd_T23 ps p.length) = true
          · rw [if_pos q1]
            obtain ⟨r, e, hr⟩ := ih (wrap64 (t + (rd_T56 its (itemIx its nd.f1 0)).f2))
            exact ⟨r, e, hstep _ (by simp only [if_neg q0, if_pos q1]; exact hr)⟩
          · rw [if_neg q1]
            exact ⟨_, rfl, hstep _ (by simp only [if_neg q0, if_neg q1]; exact Ev.now _)⟩
      · rw [valF_other e1 (by omega)]
        obtain ⟨r, e, hr⟩ := ih t
        refine ⟨r, e, Ev.step (fun k => ?_) hr⟩
        rw [rf_Value.l0, if_pos hlt, if_pos (by omega), hx, if_neg e1, if_neg (by omega), hw]
        rfl
    · rw [if_neg a] at hf
      by_cases hc : okCut l.length p.length nd = true
      · rw [if_pos hc] at hf
        have hlen := cut_len kf nd p.length ps bs
        rw [valF_cut hk (h _) (by rw [h1]; exact hc)]
        by_cases hin : cutIn kf nd (rd_T23 ps p.length) (rd_T23 bs p.length)
        · obtain ⟨r, e, hr⟩ := val_run (n := n) (its := its) hk hi hl s (p ++ [nd]) _ u' (cutP kf nd p.length ps bs) (cutB kf nd p.length bs) t (by rw [← hp]; simp) (by rw [len_snoc]; exact hf) (by rw [hlen.1, h1]) (by rw [hlen.2, h2]) (cut_PBs hk.1 (by omega) h (by rw [h1]; exact hc) (by omega) hin)
          rw [hsn] at e
          rw [len_snoc] at hr
          rw [if_pos hin]
          refine ⟨r, e, ?_⟩
          have := rcut_ev (n := n) (its := its) hk hl (by omega) hlt hx h1 h2 h hc (t := t) (R := r) (fun _ => by rw [hw]; exact hr)
          rw [if_pos hin] at this
          exact this
        · rw [if_neg hin]
          refine ⟨_, rfl, ?_⟩
          have := rcut_ev (n := n) (its := its) hk hl (by omega) hlt hx h1 h2 h hc (t := t) (R := (0, 6)) (fun hh => absurd hh hin)
          rw [if_neg hin] at this
          exact this
      · rw [if_neg hc] at hf
        exact absurd hf (by simp)

def ps0 (n : S23) (N : Nat) : List S23 := (List.replicate N z23).set 0 n
def valR (n : S23) (kf : Int) (its : List S56) (l : List S61) : Int × Int := if chk n kf its = 0 then (if l.length > 1024 then (0, 7) else if formB l = true then (valF kf its l 0 (ps0 n l.length) (List.replicate l.length z23) 0).getD (0, 0) else (0, 1)) else (0, chk n kf its)
theorem form_some {l : List S61} (h : formB l = true) : 0 < l.length ∧ ∃ u, fmF l.length l 0 (List.replicate l.length 0) = some u ∧ finB u = true := by
  unfold formB fmR at h
  rw [Bool.and_eq_true] at h
  refine ⟨by cases l; simp at h; simp, ?_⟩
  cases hf : fmF l.length l 0 (List.replicate l.length 0)
  · rw [hf] at h; exact absurd h.2 (by simp)
  · rw [hf] at h
    exact ⟨_, rfl, h.2⟩
theorem rd23_rep (N : Nat) (x : Int) : rd_T23 (List.replicate N z23) x = z23 := by
  unfold rd_T23
  rw [List.getD_eq_getElem?_getD, List.getElem?_replicate]
  by_cases h : x.toNat < N <;> simp [h]
theorem PBs0 {n : S23} (hn : okN n) {N : Nat} (hN : 0 < N) : PBs (ps0 n N) (List.replicate N z23) := fun x => by
  unfold ps0
  rw [rd23_set _ _ _ _ (by simp; exact hN), rd23_rep]
  unfold okN at hn
  by_cases e : x.toNat = 0
  · rw [if_pos e]
    refine ⟨⟨?_, ?_, ?_⟩, ⟨?_, ?_, ?_⟩, ?_, ?_, ?_⟩ <;> first | (show (0 : Int) ≤ 0; decide) | (show _ + (0 : Int) ≤ 24; omega) | omega
  · rw [if_neg e]
    unfold PB; decide
theorem bxs0 (n : S23) (N : Nat) : bxs (ps0 n N) (List.replicate N z23) = (List.replicate N z73).set 0 ⟨z23, n⟩ := by
  have h : bxs (List.replicate N z23) (List.replicate N z23) = List.replicate N z73 := by
    unfold bxs
    rw [List.zipWith_replicate, Nat.min_self]
    rfl
  have hs := bxs_set (List.replicate N z23) (List.replicate N z23) 0 n z23
  rw [h] at hs
  have e : (⟨z23, add23 n z23⟩ : S73) = ⟨z23, n⟩ := by
    congr 1
    exact S23.ext' (show 0 + n.f0 = n.f0 by omega) (show 0 + n.f1 = n.f1 by omega) (show 0 + n.f2 = n.f2 by omega)
  rw [e] at hs
  rw [hs]
  unfold ps0
  congr 1
  cases N <;> rfl
theorem val_ex {n : S23} {kf : Int} {its : List S56} (hc : chk n kf its = 0) {l : List S61} (hl : l.length < 1000000) (hf : formB l = true) : ∃ r, valF kf its l 0 (ps0 n l.length) (List.replicate l.length z23) 0 = some r ∧ Ev (fun k => rf_Value.l0 k l (bxs (ps0 n l.length) (List.replicate l.length z23)) 0 0 n.f0 n.f1 n.f2 kf its) r := by
  obtain ⟨hn, hk, hi, _⟩ := chk_ok hc
  obtain ⟨h0, u, hu, _⟩ := form_some hf
  exact val_run (n := n) (its := its) hk (by omega) hl l [] _ u _ _ 0 rfl hu (by unfold ps0; simp) (by simp) (PBs0 hn h0)
theorem val_ex0 {n : S23} {kf : Int} {its : List S56} (hc : chk n kf its = 0) {l : List S61} (hf : formB l = true) : ∃ r, valF kf its l 0 (ps0 n l.length) (List.replicate l.length z23) 0 = some r := by
  obtain ⟨hn, hk, hi, _⟩ := chk_ok hc
  obtain ⟨h0, u, hu, _⟩ := form_some hf
  exact valF_some hk l 0 _ u _ _ 0 (by unfold ps0; rw [List.length_set, List.length_replicate]; exact hu) (by unfold ps0; simp) (PBs0 hn h0)
theorem value_ev (n : S23) (kf : Int) (its : List S56) (l : List S61) : Ev (fun k => boxpack_Value.f k n.f0 n.f1 n.f2 kf its l) (valR n kf its l) := by
  unfold boxpack_Value.f valR
  refine Ev.bind (f := fun k e => if e = 0 then (if its.length < 1000 then (if (l.length : Int) > 1024 then some (0, 7) else (boxpack_plan.f k l).bind fun b => if b = true then (if l.length > 0 then valF kf its l 0 ((List.replicate l.length z23).set 0 ⟨n.f0, n.f1, n.f2⟩) (List.replicate l.length z23) 0 else none) else some (0, 1)) else none) else some (0, e)) (check_ev n kf its) ?_
  by_cases hc : chk n kf its = 0
  · obtain ⟨hn, hk, hi, _⟩ := chk_ok hc
    simp only [if_pos hc, if_pos (show its.length < 1000 by omega)]
    by_cases h1 : l.length > 1024
    · simp only [if_pos h1, if_pos (show (l.length : Int) > 1024 by omega)]
      exact Ev.now _
    · simp only [if_neg h1, if_neg (show ¬ (l.length : Int) > 1024 by omega)]
      refine Ev.bind (f := fun k b => if b = true then (if l.length > 0 then valF kf its l 0 ((List.replicate l.length z23).set 0 ⟨n.f0, n.f1, n.f2⟩) (List.replicate l.length z23) 0 else none) else some (0, 1)) (plan_ev l (by omega)) ?_
      cases hf : formB l
      · exact Ev.now _
      · obtain ⟨r, hr⟩ := val_ex0 hc hf
        rw [hr]
        simp only [if_true, if_pos (form_some hf).1]
        exact Ev.const (fun k => hr)
  · simp only [if_neg hc]
    exact Ev.now _
theorem rvalue_ev {n : S23} {kf : Int} {its : List S56} (hc : chk n kf its = 0) (l : List S61) : Ev (fun k => rf_Value.f k n.f0 n.f1 n.f2 kf its l) (valR n kf its l) := by
  unfold rf_Value.f valR
  obtain ⟨hn, hk, hi, _⟩ := chk_ok hc
  rw [if_pos hc]
  by_cases h1 : l.length > 1024
  · simp only [if_pos h1, if_pos (show (l.length : Int) > 1024 by omega)]
    exact Ev.now _
  · simp only [if_neg h1, if_neg (show ¬ (l.length : Int) > 1024 by omega)]
    refine Ev.bind (f := fun k t283 => if t283 = true then (if 0 ≤ (l.length : Int) then (if ((l.length : Int) : Int).toNat ≤ 5864062014805 then ((some (List.replicate ((l.length : Int) : Int).toNat z73 : List (S73))).bind fun y284 => (if 0 < (y284.length : Int) then (rf_Value.l0 k l (y284.set (0 : Int).toNat (⟨(⟨(rd_T73 y284 0).f0.f0, (rd_T73 y284 0).f0.f1, (rd_T73 y284 0).f0.f2⟩ : S23), (⟨n.f0, n.f1, n.f2⟩ : S23)⟩ : S73)) 0 0 n.f0 n.f1 n.f2 kf its) else (none))) else (none)) else (none)) else (some (0, 1))) (formed_ev l (by omega)) ?_
    cases hf : formB l
    · exact Ev.now _
    · obtain ⟨r, hr, hR⟩ := val_ex hc (by omega) hf
      have h0 := (form_some hf).1
      rw [hr]
      refine Ev.congr (fun k => ?_) hR
      show (if true = true then _ else _) = _
      rw [if_pos rfl, if_pos (by omega), Int.toNat_natCast, if_pos (by omega)]
      simp only [Option.bind_some]
      rw [List.length_replicate, if_pos (by omega), bxs0]
      have : rd_T73 (List.replicate l.length z73) 0 = z73 := by
        unfold rd_T73
        rw [List.getD_eq_getElem?_getD, List.getElem?_replicate]
        by_cases h : (0 : Int).toNat < l.length
        · rw [if_pos h]; rfl
        · rw [if_neg h]; rfl
      rw [this]
      rfl
theorem awk : lw_awake.f 100 = some true := by decide +kernel
theorem awake_ev : Ev (fun k => lw_awake.f k) true := Ev.of (fun k => lw_awake.mono k) awk
theorem Values_ev (n : S23) (kf : Int) (its : List S56) (l : List S61) : Ev (fun k => lw_BoxpackValues.f k n.f0 n.f1 n.f2 kf its l) true := by
  unfold lw_BoxpackValues.f
  refine Ev.bind (f := fun k t315 => lw_BoxpackValues.j0 k l (!t315) n.f0 n.f1 n.f2 kf its) awake_ev ?_
  refine Ev.step (f := fun k => lw_BoxpackValues.j1 k l n.f0 n.f1 n.f2 kf its) (fun k => rfl) ?_
  refine Ev.step (f := fun k => (rf_Small.f k n.f0 n.f1 n.f2 kf its 24).bind fun t316 => (if t316 = true then (if (l.length : Int) > 60 then (if (l.length : Int) ≤ 1024 then (lw_BoxpackValues.j2 k l true n.f0 n.f1 n.f2 kf its) else (lw_BoxpackValues.j2 k l (decide ((l.length : Int) > 2000)) n.f0 n.f1 n.f2 kf its)) else (lw_BoxpackValues.j2 k l (decide ((l.length : Int) > 2000)) n.f0 n.f1 n.f2 kf its)) else (lw_BoxpackValues.j2 k l true n.f0 n.f1 n.f2 kf its))) (fun k => rfl) ?_
  refine Ev.bind (f := fun k t316 => (if t316 = true then (if (l.length : Int) > 60 then (if (l.length : Int) ≤ 1024 then (lw_BoxpackValues.j2 k l true n.f0 n.f1 n.f2 kf its) else (lw_BoxpackValues.j2 k l (decide ((l.length : Int) > 2000)) n.f0 n.f1 n.f2 kf its)) else (lw_BoxpackValues.j2 k l (decide ((l.length : Int) > 2000)) n.f0 n.f1 n.f2 kf its)) else (lw_BoxpackValues.j2 k l true n.f0 n.f1 n.f2 kf its))) (small_ev n kf its 24) ?_
  have hT : Ev (fun k => lw_BoxpackValues.j2 k l true n.f0 n.f1 n.f2 kf its) true := Ev.const1 (fun k => rfl)
  have h7 : ∀ b, b = true → Ev (fun k => lw_BoxpackValues.j7 k b) true := fun b hb => Ev.const1 (fun k => by rw [hb]; rfl)
  have h9 : ∀ b, b = true → Ev (fun k => lw_BoxpackValues.j9 k b) true := fun b hb => Ev.const1 (fun k => by rw [hb]; rfl)
  have hF : Ev (fun k => lw_BoxpackValues.j2 k l false n.f0 n.f1 n.f2 kf its) true := by
    refine Ev.step (f := fun k => lw_BoxpackValues.j3 k l n.f0 n.f1 n.f2 kf its) (fun k => rfl) ?_
    refine Ev.step (f := fun k => (boxpack_Value.f k n.f0 n.f1 n.f2 kf its l).bind fun bt317 => (lw_BoxpackValues.j4 k l bt317.1 bt317.2 n.f0 n.f1 n.f2 kf its)) (fun k => rfl) ?_
    refine Ev.bind (f := fun k bt317 => lw_BoxpackValues.j4 k l bt317.1 bt317.2 n.f0 n.f1 n.f2 kf its) (value_ev n kf its l) ?_
    refine Ev.step (f := fun k => (rf_Check.f k n.f0 n.f1 n.f2 kf its).bind fun t319 => (lw_BoxpackValues.j5 k l (valR n kf its l).1 (valR n kf its l).2 t319 n.f0 n.f1 n.f2 kf its)) (fun k => rfl) ?_
    refine Ev.bind (f := fun k t319 => lw_BoxpackValues.j5 k l (valR n kf its l).1 (valR n kf its l).2 t319 n.f0 n.f1 n.f2 kf its) (rcheck_ev n kf its) ?_
    by_cases hc : chk n kf its = 0
    · refine Ev.step (f := fun k => (boxpack_Check.f k n.f0 n.f1 n.f2 kf its).bind fun t320 => (lw_BoxpackValues.j6 k l (valR n kf its l).1 (valR n kf its l).2 (chk n kf its) (t320 != chk n kf its) n.f0 n.f1 n.f2 kf its)) (fun k => by rw [lw_BoxpackValues.j5, if_pos hc]) ?_
      refine Ev.bind (f := fun k t320 => lw_BoxpackValues.j6 k l (valR n kf its l).1 (valR n kf its l).2 (chk n kf its) (t320 != chk n kf its) n.f0 n.f1 n.f2 kf its) (check_ev n kf its) ?_
      refine Ev.step (f := fun k => lw_BoxpackValues.j8 k l (valR n kf its l).1 (valR n kf its l).2 n.f0 n.f1 n.f2 kf its) (fun k => by rw [lw_BoxpackValues.j6, if_neg (by simp)]) ?_
      refine Ev.step (f := fun k => (rf_Value.f k n.f0 n.f1 n.f2 kf its l).bind fun bt322 => (if (valR n kf its l).1 = bt322.1 then (lw_BoxpackValues.j9 k ((valR n kf its l).2 == bt322.2)) else (lw_BoxpackValues.j9 k false))) (fun k => rfl) ?_
      refine Ev.bind (f := fun k bt322 => (if (valR n kf its l).1 = bt322.1 then (lw_BoxpackValues.j9 k ((valR n kf its l).2 == bt322.2)) else (lw_BoxpackValues.j9 k false))) (rvalue_ev hc l) ?_
      simp only [if_true]
      exact h9 _ (by simp)
    · refine Ev.step (f := fun k => lw_BoxpackValues.j6 k l (valR n kf its l).1 (valR n kf its l).2 (chk n kf its) true n.f0 n.f1 n.f2 kf its) (fun k => by rw [lw_BoxpackValues.j5, if_neg hc]) ?_
      refine Ev.step (f := fun k => (boxpack_Check.f k n.f0 n.f1 n.f2 kf its).bind fun t321 => (if t321 = chk n kf its then (if (valR n kf its l).2 = chk n kf its then (lw_BoxpackValues.j7 k ((valR n kf its l).1 == 0)) else (lw_BoxpackValues.j7 k false)) else (lw_BoxpackValues.j7 k false))) (fun k => rfl) ?_
      refine Ev.bind (f := fun k t321 => (if t321 = chk n kf its then (if (valR n kf its l).2 = chk n kf its then (lw_BoxpackValues.j7 k ((valR n kf its l).1 == 0)) else (lw_BoxpackValues.j7 k false)) else (lw_BoxpackValues.j7 k false))) (check_ev n kf its) ?_
      have hv : valR n kf its l = (0, chk n kf its) := by unfold valR; rw [if_neg hc]
      rw [hv]
      simp only [if_true]
      exact h7 _ (by simp)
  have hB : ∀ b, Ev (fun k => lw_BoxpackValues.j2 k l b n.f0 n.f1 n.f2 kf its) true := fun b => by cases b; exact hF; exact hT
  cases small n kf its 24
  · exact hT
  · simp only [if_true]
    by_cases h60 : (l.length : Int) > 60
    · simp only [if_pos h60]
      by_cases h1 : (l.length : Int) ≤ 1024
      · simp only [if_pos h1]; exact hB _
      · simp only [if_neg h1]; exact hB _
    · simp only [if_neg h60]; exact hB _

def le23 (s t : S23) : Prop := s.f0 ≤ t.f0 ∧ s.f1 ≤ t.f1 ∧ s.f2 ≤ t.f2
theorem le23.ax {s t : S23} (h : le23 s t) {ax : Int} (ha : 0 ≤ ax ∧ ax ≤ 2) : getAx s ax ≤ getAx t ax := by
  have h1 : ax = 0 ∨ ax = 1 ∨ ax = 2 := by omega
  rcases h1 with rfl | rfl | rfl
  · exact h.1
  · exact h.2.1
  · exact h.2.2
theorem le23.set {s t : S23} (h : le23 s t) {ax v w : Int} (ha : 0 ≤ ax ∧ ax ≤ 2) (hv : v ≤ w) : le23 (setAx s ax v) (setAx t ax w) := by
  have h1 : ax = 0 ∨ ax = 1 ∨ ax = 2 := by omega
  rcases h1 with rfl | rfl | rfl
  · exact ⟨hv, h.2⟩
  · exact ⟨h.1, hv, h.2.2⟩
  · exact ⟨h.1, h.2.1, hv⟩
end Go.Proofs.Ytgacodhpniehiaa.XA
