import Derived.Test.YtgacodhpniehiaaXAx33
set_option linter.unusedVariables false
set_option linter.unusedSimpArgs false
namespace Go.Proofs.Ytgacodhpniehiaa.XA
set_option linter.unusedVariables false
set_option linter.unusedSimpArgs false
open Go.RowKit Opens YtgacodhpniehiaaW.PrintWords YtgacodhpniehiaaW.PrintLast YtgacodhpniehiaaW.PrintMore
theorem wr {x : Int} (h : -9223372036854775808 ≤ x ∧ x ≤ 9223372036854775807) : wrap64 x = x := by unfold wrap64; omega
theorem Ev.eq {α : Type} {g : Nat → Option α} {r s : α} (h : Ev g r) (e : r = s) : Ev g s := e ▸ h
theorem Ev.const {α : Type} {g : Nat → Option α} {r : α} (h : ∀ k, g k = some r) : Ev g r := ⟨0, fun k _ => h k⟩
theorem Ev.const1 {α : Type} {g : Nat → Option α} {r : α} (h : ∀ k, g (k + 1) = some r) : Ev g r := ⟨1, fun k hk => by
  obtain ⟨m, rfl⟩ : ∃ m, k = m + 1 := ⟨k - 1, by omega⟩
  exact h m⟩
theorem Ev.late {α : Type} {g : Nat → Option α} {r : α} (K : Nat) (h : ∀ k, g (k + K) = some r) : Ev g r := ⟨K, fun k hk => by
  obtain ⟨m, rfl⟩ : ∃ m, k = m + K := ⟨k - K, by omega⟩
  exact h m⟩
theorem len_app {α : Type} (p s : List α) (e : α) : ((p.length : Nat) : Int) < ((p ++ e :: s).length : Int) := by simp; omega
theorem app_snoc {α : Type} (p s : List α) (e : α) : p ++ e :: s = (p ++ [e]) ++ s := by simp
theorem len_snoc {α : Type} (p : List α) (e : α) : ((p ++ [e]).length : Int) = (p.length : Int) + 1 := by simp
theorem wrn (n : Nat) (h : n < 1000000) : wrap64 ((n : Int) + 1) = (n : Int) + 1 := wr ⟨by omega, by omega⟩
theorem rd56_app (p s : List S56) (e : S56) : rd_T56 (p ++ e :: s) (p.length : Int) = e := by
  simp [rd_T56, List.getD_eq_getElem?_getD]
def fst {α : Type} (P : α → Bool) : Int → List α → Int
  | _, [] => -1
  | i, x :: s => if P x = true then i else fst P (i + 1) s
theorem fst_any {α : Type} (P : α → Bool) : ∀ (s : List α) (i : Int), 0 ≤ i → decide (fst P i s ≥ 0) = s.any P
  | [], _, _ => rfl
  | x :: s, i, h => by
    rw [fst, List.any_cons]
    by_cases c : P x = true
    · rw [if_pos c, c, decide_eq_true h]; rfl
    · rw [if_neg c, fst_any P s (i + 1) (by omega), Bool.eq_false_iff.2 c]; rfl
theorem ix_ev {α : Type} (L : Nat → List α → Int → Int → Option Int) (g : Nat → α → Option Bool) (rdx : List α → Int → α) (hr : ∀ p s e, rdx (p ++ e :: s) ((p.length : Nat) : Int) = e)
    (hL : ∀ k xs n i, L (k + 1) xs n i = if i < n then (if 0 ≤ i then (if i < (xs.length : Int) then ((g k (rdx xs i)).bind fun t => (if t = true then (some i) else (L k xs n (wrap64 (i + 1))))) else none) else none) else (some (-1))) (P : α → Bool) :
    ∀ (s p : List α), (∀ x ∈ s, Ev (fun k => g k x) (P x)) → (p ++ s).length < 1000000 → Ev (fun k => L k (p ++ s) ((p ++ s).length : Int) (p.length : Int)) (fst P p.length s)
  | [], p, _, hl => by
    refine Ev.const1 (fun k => ?_)
    rw [hL, if_neg (by simp)]
    rfl
  | x :: s, p, hP, hl => by
    refine Ev.step (f := fun k => (g k x).bind fun t => (if t = true then (some (p.length : Int)) else (L k (p ++ x :: s) ((p ++ x :: s).length : Int) ((p.length : Int) + 1)))) (fun k => ?_) ?_
    · rw [hL, if_pos (len_app p s x), if_pos (by omega), if_pos (len_app p s x), hr, wrn _ (by simp at hl; omega)]
    · refine Ev.bind (f := fun k t => if t = true then (some (p.length : Int)) else (L k (p ++ x :: s) ((p ++ x :: s).length : Int) ((p.length : Int) + 1))) (hP x (List.mem_cons_self)) ?_
      rw [fst]
      by_cases c : P x = true
      · simp only [if_pos c]
        exact Ev.now _
      · simp only [if_neg c]
        have := ix_ev L g rdx hr hL P s (p ++ [x]) (fun y hy => hP y (List.mem_cons_of_mem _ hy)) (by rw [← app_snoc]; exact hl)
        rw [← app_snoc, len_snoc] at this
        exact this
theorem ix_any {α : Type} (L : Nat → List α → Int → Int → Option Int) (g : Nat → α → Option Bool) (rdx : List α → Int → α) (hr : ∀ p s e, rdx (p ++ e :: s) ((p.length : Nat) : Int) = e)
    (hL : ∀ k xs n i, L (k + 1) xs n i = if i < n then (if 0 ≤ i then (if i < (xs.length : Int) then ((g k (rdx xs i)).bind fun t => (if t = true then (some i) else (L k xs n (wrap64 (i + 1))))) else none) else none) else (some (-1))) (P : α → Bool)
    (s : List α) (hP : ∀ x ∈ s, Ev (fun k => g k x) (P x)) (hl : s.length < 1000000) : Ev (fun k => (L k s (s.length : Int) 0).bind fun t => some (decide (t ≥ 0))) (s.any P) := by
  have h := ix_ev L g rdx hr hL P s [] hP hl
  refine Ev.bind (f := fun _ t => some (decide (t ≥ 0))) h ?_
  rw [← fst_any P s 0 (by omega)]
  exact Ev.now _

def pos3 (s : S23) : Bool := decide (1 ≤ s.f0 ∧ s.f0 ≤ 24) && decide (1 ≤ s.f1 ∧ s.f1 ≤ 24) && decide (1 ≤ s.f2 ∧ s.f2 ≤ 24)
def itOk (x : S56) : Bool := pos3 x.f1 && decide (0 ≤ x.f2 ∧ x.f2 ≤ 1000000000)
def nameless (x : S56) : Bool := x.f0.toList == ([] : List UInt8)
def sameName (x y : S56) : Bool := x.f0.toList == y.f0.toList
def dup : List S56 → List S56 → Bool
  | _, [] => false
  | p, x :: s => p.any (fun y => sameName y x) || dup (p ++ [x]) s
def chk (n : S23) (kf : Int) (its : List S56) : Int :=
  if its.length > 6 then 7 else if its.any nameless = true then 4 else if (pos3 n && decide (0 ≤ kf ∧ kf ≤ 24) && its.all itOk) = true then (if dup [] its = true then 5 else 0) else 6
theorem possible_ev (a b c : Int) : Ev (fun k => boxpack_possible.f k a b c) (pos3 ⟨a, b, c⟩) := by
  refine Ev.late 4 (fun k => ?_)
  simp only [boxpack_possible.f, boxpack_sides.f, Option.bind_some, boxpack_possible.l0, pos3]
  grind
theorem check2_ev (x : S56) : Ev (fun k => boxpack_Check_2.f k x.f0 x.f1.f0 x.f1.f1 x.f1.f2 x.f2 x.f3 x.f4) (!itOk x) := by
  unfold boxpack_Check_2.f
  refine Ev.bind (f := fun k t109 => if t109 = true then (if x.f2 < 0 then (some true) else (some (decide (x.f2 > 1000000000)))) else (some true)) (possible_ev _ _ _) ?_
  refine Ev.const (fun k => ?_)
  unfold itOk
  rw [show (⟨x.f1.f0, x.f1.f1, x.f1.f2⟩ : S23) = x.f1 from rfl]
  cases pos3 x.f1
  · rfl
  · by_cases h : x.f2 < 0
    · rw [if_pos rfl, if_pos h, decide_eq_false (show ¬ (0 ≤ x.f2 ∧ x.f2 ≤ 1000000000) by omega)]; rfl
    · rw [if_pos rfl, if_neg h]
      by_cases h1 : x.f2 > 1000000000
      · rw [decide_eq_true h1, decide_eq_false (show ¬ (0 ≤ x.f2 ∧ x.f2 ≤ 1000000000) by omega)]; rfl
      · rw [decide_eq_false h1, decide_eq_true (show (0 ≤ x.f2 ∧ x.f2 ≤ 1000000000) by omega)]; rfl
theorem any_not_all {α : Type} (P : α → Bool) : ∀ s : List α, s.any (fun x => !P x) = !s.all P
  | [] => rfl
  | x :: s => by rw [List.any_cons, List.all_cons, any_not_all P s]; cases P x <;> rfl
theorem c1_ev (s : List S56) (hl : s.length < 1000000) : Ev (fun k => api_Item_34_by_boxpack_Check_1.f k s) (s.any nameless) :=
  ix_any (fun k xs n i => api_Item_30_by_boxpack_Check_1.l0 k xs n i) (fun _ x => boxpack_Check_1.f x.f0 x.f1.f0 x.f1.f1 x.f1.f2 x.f2 x.f3 x.f4) rd_T56 rd56_app (fun _ _ _ _ => rfl) nameless s (fun x _ => Ev.const fun _ => rfl) hl
theorem c2_ev (s : List S56) (hl : s.length < 1000000) : Ev (fun k => api_Item_34_by_boxpack_Check_2.f k s) (!s.all itOk) := by
  rw [← any_not_all]
  exact ix_any (fun k xs n i => api_Item_30_by_boxpack_Check_2.l0 k xs n i) (fun k x => boxpack_Check_2.f k x.f0 x.f1.f0 x.f1.f1 x.f1.f2 x.f2 x.f3 x.f4) rd_T56 rd56_app (fun _ _ _ _ => rfl) (fun x => !itOk x) s (fun x _ => check2_ev x) hl
theorem c3_ev (s : List S56) (x : S56) (hl : s.length < 1000000) : Ev (fun k => api_Item_34_by_boxpack_Check_3.f k s x.f0 x.f1.f0 x.f1.f1 x.f1.f2 x.f2 x.f3 x.f4) (s.any (fun y => sameName y x)) :=
  ix_any (fun k xs n i => api_Item_30_by_boxpack_Check_3.l0 k xs n i x.f0 x.f1.f0 x.f1.f1 x.f1.f2 x.f2 x.f3 x.f4) (fun _ y => boxpack_Check_3.f y.f0 y.f1.f0 y.f1.f1 y.f1.f2 y.f2 y.f3 y.f4 x.f0 x.f1.f0 x.f1.f1 x.f1.f2 x.f2 x.f3 x.f4) rd_T56 rd56_app (fun _ _ _ _ => rfl) (fun y => sameName y x) s (fun y _ => Ev.const fun _ => rfl) hl
theorem cl_ev (a b c d : Int) (its : List S56) (hi : its.length < 1000000) : ∀ (s p : List S56), p ++ s = its → Ev (fun k => boxpack_Check.l0 k its (its.length : Int) (p.length : Int) a b c d its) (if dup p s = true then 5 else 0)
  | [], p, hp => by
    refine Ev.const1 (fun k => ?_)
    rw [boxpack_Check.l0, if_neg (by rw [← hp]; simp)]
    rfl
  | x :: s, p, hp => by
    have hlt : (p.length : Int) < (its.length : Int) := by rw [← hp]; exact len_app p s x
    refine Ev.step (f := fun k => (api_Item_34_by_boxpack_Check_3.f k p x.f0 x.f1.f0 x.f1.f1 x.f1.f2 x.f2 x.f3 x.f4).bind fun t => (if t = true then (some 5) else (boxpack_Check.l0 k its (its.length : Int) ((p ++ [x]).length : Int) a b c d its))) (fun k => ?_) ?_
    · rw [boxpack_Check.l0, if_pos hlt, if_pos (by omega), if_pos hlt, if_pos (by omega), show (its.take ((p.length : Int)).toNat) = p by rw [← hp]; simp, show rd_T56 its (p.length : Int) = x by rw [← hp]; exact rd56_app p s x, wrn _ (by omega), len_snoc]
    · refine Ev.bind (f := fun k t => (if t = true then (some 5) else (boxpack_Check.l0 k its (its.length : Int) ((p ++ [x]).length : Int) a b c d its))) (c3_ev p x (by have := congrArg List.length hp; simp at this; omega)) ?_
      rw [dup]
      cases hd : p.any (fun y => sameName y x)
      · simp only [Bool.false_eq_true, if_false, Bool.false_or]
        exact cl_ev a b c d its hi s (p ++ [x]) (by rw [← hp]; simp)
      · simp only [if_true, Bool.true_or]
        exact Ev.now _
theorem cj_ev (a b c d : Int) (its : List S56) (hi : its.length < 1000000) (t : Bool) : Ev (fun k => boxpack_Check.j0 k t a b c d its) (if t = true then 6 else if dup [] its = true then 5 else 0) := by
  refine Ev.step (f := fun k => if t = true then some 6 else boxpack_Check.l0 k its (its.length : Int) 0 a b c d its) (fun k => rfl) ?_
  cases t
  · simp only [Bool.false_eq_true, if_false]
    exact cl_ev a b c d its hi its [] rfl
  · exact Ev.now _
theorem check_ev (n : S23) (kf : Int) (its : List S56) : Ev (fun k => boxpack_Check.f k n.f0 n.f1 n.f2 kf its) (chk n kf its) := by
  unfold boxpack_Check.f chk
  by_cases h6 : (its.length : Int) > 6
  · simp only [if_pos h6, if_pos (show its.length > 6 by omega)]
    exact Ev.now _
  · simp only [if_neg h6, if_neg (show ¬ its.length > 6 by omega)]
    refine Ev.bind (f := fun k t115 => if t115 = true then (some 4) else ((boxpack_possible.f k n.f0 n.f1 n.f2).bind fun t116 => (if t116 = true then (if kf < 0 then (boxpack_Check.j0 k true n.f0 n.f1 n.f2 kf its) else (if kf > 24 then (boxpack_Check.j0 k true n.f0 n.f1 n.f2 kf its) else ((api_Item_34_by_boxpack_Check_2.f k its).bind fun t117 => (boxpack_Check.j0 k t117 n.f0 n.f1 n.f2 kf its)))) else (boxpack_Check.j0 k true n.f0 n.f1 n.f2 kf its)))) (c1_ev its (by omega)) ?_
    cases its.any nameless
    case true => exact Ev.now _
    simp only [Bool.false_eq_true, if_false]
    refine Ev.bind (f := fun k t116 => if t116 = true then (if kf < 0 then (boxpack_Check.j0 k true n.f0 n.f1 n.f2 kf its) else (if kf > 24 then (boxpack_Check.j0 k true n.f0 n.f1 n.f2 kf its) else ((api_Item_34_by_boxpack_Check_2.f k its).bind fun t117 => (boxpack_Check.j0 k t117 n.f0 n.f1 n.f2 kf its)))) else (boxpack_Check.j0 k true n.f0 n.f1 n.f2 kf its)) (possible_ev n.f0 n.f1 n.f2) ?_
    rw [show (⟨n.f0, n.f1, n.f2⟩ : S23) = n from rfl]
    cases pos3 n
    case false =>
      simp only [Bool.false_eq_true, if_false, Bool.false_and]
      exact cj_ev _ _ _ _ its (by omega) true
    simp only [if_true, Bool.true_and]
    by_cases k0 : kf < 0
    · simp only [if_pos k0, decide_eq_false (show ¬ (0 ≤ kf ∧ kf ≤ 24) by omega), Bool.false_and, Bool.false_eq_true, if_false]
      exact cj_ev _ _ _ _ its (by omega) true
    by_cases k1 : kf > 24
    · simp only [if_neg k0, if_pos k1, decide_eq_false (show ¬ (0 ≤ kf ∧ kf ≤ 24) by omega), Bool.false_and, Bool.false_eq_true, if_false]
      exact cj_ev _ _ _ _ its (by omega) true
    simp only [if_neg k0, if_neg k1, decide_eq_true (show (0 ≤ kf ∧ kf ≤ 24) by omega), Bool.true_and]
    refine Ev.bind (f := fun k t117 => boxpack_Check.j0 k t117 n.f0 n.f1 n.f2 kf its) (c2_ev its (by omega)) ?_
    refine Ev.eq (cj_ev _ _ _ _ its (by omega) _) ?_
    cases its.all itOk <;> rfl

theorem side_eq (s : S23) (ax : Int) (h : 0 ≤ ax ∧ ax ≤ 2) : rf_side.f s.f0 s.f1 s.f2 ax = some (getAx s ax) := by
  have : ax = 0 ∨ ax = 1 ∨ ax = 2 := by omega
  rcases this with rfl | rfl | rfl <;> rfl
theorem sized_ev (s : S23) : Ev (fun k => rf_sized.f k s.f0 s.f1 s.f2) (pos3 s) := by
  refine Ev.late 4 (fun k => ?_)
  simp only [rf_sized.f, rf_sized.l0]
  rw [show wrap64 (0 + 1) = 1 from wr ⟨by decide, by decide⟩, show wrap64 (1 + 1) = 2 from wr ⟨by decide, by decide⟩, show wrap64 (2 + 1) = 3 from wr ⟨by decide, by decide⟩]
  simp only [side_eq s 0 (by decide), side_eq s 1 (by decide), side_eq s 2 (by decide), Option.bind_some, pos3]
  rw [show getAx s 0 = s.f0 from rfl, show getAx s 1 = s.f1 from rfl, show getAx s 2 = s.f2 from rfl]
  grind
theorem r3_ev (a b c d : Int) (its : List S56) (hi : its.length < 1000000) (x : S56) (s : List S56) (p : List S56) (hp : p ++ x :: s = its) (R : Int) (hn : Ev (fun k => rf_Check.l2 k ((p.length : Int) + 1) a b c d its) R) : ∀ (q2 q1 : List S56), q1 ++ q2 = p → Ev (fun k => rf_Check.l3 k (p.length : Int) (q1.length : Int) a b c d its) (if q2.any (fun y => sameName y x) = true then 5 else R)
  | [], q1, hq => by
    refine Ev.step (f := fun k => rf_Check.l2 k ((p.length : Int) + 1) a b c d its) (fun k => ?_) hn
    rw [rf_Check.l3, if_neg (by rw [← hq]; simp), wrn _ (by have := congrArg List.length hp; simp at this; omega)]
  | y :: q2, q1, hq => by
    have h1 : (q1.length : Int) < (p.length : Int) := by rw [← hq]; exact len_app q1 q2 y
    have h2 : (p.length : Int) < (its.length : Int) := by rw [← hp]; exact len_app p s x
    have hx : rd_T56 its (p.length : Int) = x := by rw [← hp]; exact rd56_app p s x
    have hy : rd_T56 its (q1.length : Int) = y := by rw [← hp, ← hq, List.append_assoc, List.cons_append]; exact rd56_app q1 (q2 ++ x :: s) y
    refine Ev.step (f := fun k => if x.f0.toList = y.f0.toList then some 5 else rf_Check.l3 k (p.length : Int) ((q1 ++ [y]).length : Int) a b c d its) (fun k => ?_) ?_
    · rw [rf_Check.l3, if_pos h1, if_pos (by omega), if_pos h2, if_pos (by omega), if_pos (by omega), hx, hy, wrn _ (by omega), len_snoc]
    · rw [List.any_cons]
      by_cases he : x.f0.toList = y.f0.toList
      · simp only [if_pos he, sameName, he, beq_self_eq_true, Bool.true_or, if_true]
        exact Ev.now _
      · have he' : (y.f0.toList == x.f0.toList) = false := beq_eq_false_iff_ne.2 (fun h => he h.symm)
        simp only [if_neg he, sameName, he', Bool.false_or]
        exact r3_ev a b c d its hi x s p hp R hn q2 (q1 ++ [y]) (by rw [← hq]; simp)
theorem r2_ev (a b c d : Int) (its : List S56) (hi : its.length < 1000000) : ∀ (s p : List S56), p ++ s = its → Ev (fun k => rf_Check.l2 k (p.length : Int) a b c d its) (if dup p s = true then 5 else 0)
  | [], p, hp => by
    refine Ev.const1 (fun k => ?_)
    rw [rf_Check.l2, if_neg (by rw [← hp]; simp)]
    rfl
  | x :: s, p, hp => by
    have h2 : (p.length : Int) < (its.length : Int) := by rw [← hp]; exact len_app p s x
    refine Ev.step (f := fun k => rf_Check.l3 k (p.length : Int) 0 a b c d its) (fun k => ?_) ?_
    · rw [rf_Check.l2, if_pos h2]
    · have ih := r2_ev a b c d its hi s (p ++ [x]) (by rw [← hp]; simp)
      rw [len_snoc] at ih
      refine Ev.eq (r3_ev a b c d its hi x s p hp _ ih p [] rfl) ?_
      rw [dup]
      cases p.any (fun y => sameName y x) <;> rfl
theorem r1_ev (n : S23) (d : Int) (its : List S56) (hi : its.length < 1000000) : ∀ (s p : List S56) (ok : Bool), p ++ s = its → Ev (fun k => rf_Check.l1 k ok (p.length : Int) n.f0 n.f1 n.f2 d its) (if (ok && s.all itOk) = true then (if dup [] its = true then 5 else 0) else 6)
  | [], p, ok, hp => by
    refine Ev.step (f := fun k => if ok = true then rf_Check.l2 k 0 n.f0 n.f1 n.f2 d its else some 6) (fun k => ?_) ?_
    · rw [rf_Check.l1, if_neg (by rw [← hp]; simp)]
    · cases ok
      · exact Ev.now _
      · exact r2_ev _ _ _ _ its hi its [] rfl
  | x :: s, p, ok, hp => by
    have h2 : (p.length : Int) < (its.length : Int) := by rw [← hp]; exact len_app p s x
    have hx : rd_T56 its (p.length : Int) = x := by rw [← hp]; exact rd56_app p s x
    have ih := fun ok => r1_ev n d its hi s (p ++ [x]) ok (by rw [← hp]; simp)
    simp only [len_snoc] at ih
    refine Ev.step (f := fun k => if ok = true then ((rf_sized.f k x.f1.f0 x.f1.f1 x.f1.f2).bind fun t257 => (if t257 = true then (if x.f2 ≥ 0 then (rf_Check.l1 k (decide (x.f2 ≤ 1000000000)) ((p.length : Int) + 1) n.f0 n.f1 n.f2 d its) else (rf_Check.l1 k false ((p.length : Int) + 1) n.f0 n.f1 n.f2 d its)) else (rf_Check.l1 k false ((p.length : Int) + 1) n.f0 n.f1 n.f2 d its))) else rf_Check.l1 k false ((p.length : Int) + 1) n.f0 n.f1 n.f2 d its) (fun k => ?_) ?_
    · rw [rf_Check.l1, if_pos h2, if_pos (show 0 ≤ (p.length : Int) by omega), hx, wrn _ (by omega)]
    · cases ok
      · simp only [Bool.false_eq_true, if_false, Bool.false_and]
        refine Ev.eq (ih false) ?_
        simp
      · simp only [if_true, Bool.true_and]
        refine Ev.bind (f := fun k t257 => if t257 = true then (if x.f2 ≥ 0 then (rf_Check.l1 k (decide (x.f2 ≤ 1000000000)) ((p.length : Int) + 1) n.f0 n.f1 n.f2 d its) else (rf_Check.l1 k false ((p.length : Int) + 1) n.f0 n.f1 n.f2 d its)) else (rf_Check.l1 k false ((p.length : Int) + 1) n.f0 n.f1 n.f2 d its)) (sized_ev x.f1) ?_
        rw [List.all_cons]
        unfold itOk
        cases pos3 x.f1
        · simp only [Bool.false_eq_true, if_false, Bool.false_and]
          refine Ev.eq (ih false) ?_
          simp
        · by_cases h0 : x.f2 ≥ 0
          · simp only [if_true, if_pos h0, Bool.true_and]
            refine Ev.eq (ih _) ?_
            rw [show decide (0 ≤ x.f2 ∧ x.f2 ≤ 1000000000) = decide (x.f2 ≤ 1000000000) from decide_eq_decide.2 ⟨fun h => h.2, fun h => ⟨h0, h⟩⟩]
            rfl
          · simp only [if_true, if_neg h0, Bool.true_and]
            refine Ev.eq (ih false) ?_
            rw [decide_eq_false (show ¬ (0 ≤ x.f2 ∧ x.f2 ≤ 1000000000) from fun h => h0 h.1)]
            simp
theorem r0_ev (n : S23) (d : Int) (its : List S56) (hi : its.length < 1000000) : ∀ (s p : List S56), p ++ s = its → Ev (fun k => rf_Check.l0 k (p.length : Int) n.f0 n.f1 n.f2 d its) (if s.any nameless = true then 4 else if (pos3 n && decide (0 ≤ d ∧ d ≤ 24) && its.all itOk) = true then (if dup [] its = true then 5 else 0) else 6)
  | [], p, hp => by
    refine Ev.step (f := fun k => (rf_sized.f k n.f0 n.f1 n.f2).bind fun t255 => (if t255 = true then (if d ≥ 0 then (rf_Check.j1 k (decide (d ≤ 24)) n.f0 n.f1 n.f2 d its) else (rf_Check.j1 k false n.f0 n.f1 n.f2 d its)) else (rf_Check.j1 k false n.f0 n.f1 n.f2 d its))) (fun k => ?_) ?_
    · rw [rf_Check.l0, if_neg (by rw [← hp]; simp)]
    · refine Ev.bind (f := fun k t255 => if t255 = true then (if d ≥ 0 then (rf_Check.j1 k (decide (d ≤ 24)) n.f0 n.f1 n.f2 d its) else (rf_Check.j1 k false n.f0 n.f1 n.f2 d its)) else (rf_Check.j1 k false n.f0 n.f1 n.f2 d its)) (sized_ev n) ?_
      have hj : ∀ ok, Ev (fun k => rf_Check.j1 k ok n.f0 n.f1 n.f2 d its) (if (ok && its.all itOk) = true then (if dup [] its = true then 5 else 0) else 6) := fun ok => Ev.step (f := fun k => rf_Check.l1 k ok 0 n.f0 n.f1 n.f2 d its) (fun k => rfl) (r1_ev n d its hi its [] ok rfl)
      cases pos3 n
      · simp only [Bool.false_eq_true, if_false, Bool.false_and]
        refine Ev.eq (hj false) ?_
        simp
      · by_cases h0 : d ≥ 0
        · simp only [if_true, if_pos h0, Bool.true_and]
          refine Ev.eq (hj _) ?_
          rw [show decide (0 ≤ d ∧ d ≤ 24) = decide (d ≤ 24) from decide_eq_decide.2 ⟨fun h => h.2, fun h => ⟨h0, h⟩⟩]
          rfl
        · simp only [if_true, if_neg h0, Bool.true_and]
          refine Ev.eq (hj false) ?_
          rw [decide_eq_false (show ¬ (0 ≤ d ∧ d ≤ 24) from fun h => h0 h.1)]
          simp
  | x :: s, p, hp => by
    have h2 : (p.length : Int) < (its.length : Int) := by rw [← hp]; exact len_app p s x
    have hx : rd_T56 its (p.length : Int) = x := by rw [← hp]; exact rd56_app p s x
    refine Ev.step (f := fun k => if x.f0.toList = ([] : List UInt8) then some 4 else rf_Check.l0 k ((p ++ [x]).length : Int) n.f0 n.f1 n.f2 d its) (fun k => ?_) ?_
    · rw [rf_Check.l0, if_pos h2, if_pos (by omega), hx, wrn _ (by omega), len_snoc]
    · rw [List.any_cons]
      by_cases he : x.f0.toList = []
      · simp only [if_pos he, nameless, he, beq_self_eq_true, Bool.true_or, if_true]
        exact Ev.now _
      · have he' : nameless x = false := beq_eq_false_iff_ne.2 he
        simp only [if_neg he, he', Bool.false_or]
        exact r0_ev n d its hi s (p ++ [x]) (by rw [← hp]; simp)
theorem rcheck_ev (n : S23) (kf : Int) (its : List S56) : Ev (fun k => rf_Check.f k n.f0 n.f1 n.f2 kf its) (chk n kf its) := by
  unfold rf_Check.f chk
  by_cases h6 : (its.length : Int) > 6
  · simp only [if_pos h6, if_pos (show its.length > 6 by omega)]
    exact Ev.now _
  · simp only [if_neg h6, if_neg (show ¬ its.length > 6 by omega)]
    exact r0_ev n kf its (by omega) its [] rfl
def small (n : S23) (kf : Int) (its : List S56) (m : Int) : Bool := decide (its.length ≤ 8) && (decide (chk n kf its ≠ 0) || decide (n.f0 ≤ m ∧ n.f1 ≤ m ∧ n.f2 ≤ m))
theorem small_ev (n : S23) (kf : Int) (its : List S56) (m : Int) : Ev (fun k => rf_Small.f k n.f0 n.f1 n.f2 kf its m) (small n kf its m) := by
  unfold rf_Small.f small
  by_cases h8 : (its.length : Int) > 8
  · simp only [if_pos h8, decide_eq_false (show ¬ its.length ≤ 8 by omega), Bool.false_and]
    exact Ev.now _
  · simp only [if_neg h8, decide_eq_true (show its.length ≤ 8 by omega), Bool.true_and]
    refine Ev.bind (f := fun k t263 => if t263 = 0 then (if n.f0 ≤ m then (if n.f1 ≤ m then (some (decide (n.f2 ≤ m))) else (some false)) else (some false)) else (some true)) (rcheck_ev n kf its) ?_
    refine Ev.const (fun k => ?_)
    by_cases hc : chk n kf its = 0
    · simp only [if_pos hc, hc, ne_eq, not_true_eq_false, decide_false, Bool.false_or]
      by_cases a : n.f0 ≤ m <;> by_cases b : n.f1 ≤ m <;> simp [a, b]
    · simp [hc]

def inB (n s : S23) : Prop := (1 ≤ s.f0 ∧ s.f0 ≤ n.f0) ∧ (1 ≤ s.f1 ∧ s.f1 ≤ n.f1) ∧ (1 ≤ s.f2 ∧ s.f2 ≤ n.f2)
def okN (n : S23) : Prop := (1 ≤ n.f0 ∧ n.f0 ≤ 24) ∧ (1 ≤ n.f1 ∧ n.f1 ≤ 24) ∧ (1 ≤ n.f2 ∧ n.f2 ≤ 24)
def ix (n s : S23) : Int := ((s.f2 - 1) * n.f1 + (s.f1 - 1)) * n.f0 + (s.f0 - 1)
def cnt (n : S23) : Int := n.f0 * n.f1 * n.f2
def sz (n : S23) (i : Int) : S23 := ⟨i % n.f0 + 1, i / n.f0 % n.f1 + 1, i / n.f0 / n.f1 + 1⟩
theorem S23.ext' {p q : S23} (h0 : p.f0 = q.f0) (h1 : p.f1 = q.f1) (h2 : p.f2 = q.f2) : p = q := by cases p; cases q; simp_all
theorem pos3_ok {n : S23} (h : pos3 n = true) : okN n := by
  unfold pos3 at h
  simp only [Bool.and_eq_true, decide_eq_true_eq] at h
  exact ⟨h.1.1, h.1.2, h.2⟩
theorem mix {a b m M : Int} (ha : 0 ≤ a) (hM : a ≤ M - 1) (hb : 0 ≤ b) (hm : b ≤ m - 1) : 0 ≤ a * m + b ∧ a * m + b ≤ M * m - 1 := by
  have h1 := Int.mul_nonneg ha (show 0 ≤ m by omega)
  have h2 := Int.mul_le_mul_of_nonneg_right hM (show 0 ≤ m by omega)
  rw [Int.sub_mul] at h2
  omega
theorem mul_le {a b A B : Int} (ha : 0 ≤ a) (hA : a ≤ A) (hb : 0 ≤ b) (hB : b ≤ B) : 0 ≤ a * b ∧ a * b ≤ A * B :=
  ⟨Int.mul_nonneg ha hb, Int.mul_le_mul hA hB hb (Int.le_trans ha hA)⟩
theorem cnt_le {n : S23} (hn : okN n) : 1 ≤ cnt n ∧ cnt n ≤ 13824 := by
  obtain ⟨h0, h1, h2⟩ := hn
  unfold cnt
  have a := mul_le (a := n.f0) (b := n.f1) (A := 24) (B := 24) (by omega) h0.2 (by omega) h1.2
  have b := mul_le (a := n.f0 * n.f1) (b := n.f2) (A := 24 * 24) (B := 24) a.1 a.2 (by omega) h2.2
  have c := Int.mul_le_mul h0.1 h1.1 (by decide) (show 0 ≤ n.f0 by omega)
  have d := Int.mul_le_mul c h2.1 (by decide) a.1
  omega
theorem ix_row {n s : S23} (hs : inB n s) : 0 ≤ (s.f2 - 1) * n.f1 + (s.f1 - 1) ∧ (s.f2 - 1) * n.f1 + (s.f1 - 1) ≤ n.f2 * n.f1 - 1 := mix (by have := hs; unfold inB at this; omega) (by have := hs; unfold inB at this; omega) (by have := hs; unfold inB at this; omega) (by have := hs; unfold inB at this; omega)
theorem ix_lt {n s : S23} (hs : inB n s) : 0 ≤ ix n s ∧ ix n s < cnt n := by
  have hr := ix_row hs
  have := mix (a := (s.f2 - 1) * n.f1 + (s.f1 - 1)) (b := s.f0 - 1) (m := n.f0) (M := n.f2 * n.f1) hr.1 (by omega) (by have := hs.1; omega) (by have := hs.1; omega)
  rw [show n.f2 * n.f1 * n.f0 = cnt n by unfold cnt; rw [Int.mul_comm n.f2 n.f1, Int.mul_comm (n.f1 * n.f2) n.f0, ← Int.mul_assoc]] at this
  unfold ix
  omega
theorem ixS_eq {n s : S23} (hn : okN n) (hs : inB n s) : ixS n.f0 n.f1 s = ix n s := by
  have hr := ix_row hs
  have hl := ix_lt hs
  have hc := cnt_le hn
  have hn' := hn
  unfold okN at hn'
  have h21 : 0 ≤ (s.f2 - 1) * n.f1 := Int.mul_nonneg (by have := hs.2.2; omega) (by omega)
  have hm := mul_le (a := n.f2) (b := n.f1) (A := 24) (B := 24) (by omega) (by omega) (by omega) (by omega)
  have hs' := hs
  unfold inB at hs'
  have hq : 0 ≤ ((s.f2 - 1) * n.f1 + (s.f1 - 1)) * n.f0 := Int.mul_nonneg hr.1 (by omega)
  unfold ix at hl ⊢
  unfold ixS
  rw [wr (x := s.f2 - 1) (by omega), wr (x := (s.f2 - 1) * n.f1) (by omega), wr (x := (s.f2 - 1) * n.f1 + s.f1) (by omega), wr (x := (s.f2 - 1) * n.f1 + s.f1 - 1) (by omega),
    show (s.f2 - 1) * n.f1 + s.f1 - 1 = (s.f2 - 1) * n.f1 + (s.f1 - 1) by omega, wr (x := ((s.f2 - 1) * n.f1 + (s.f1 - 1)) * n.f0) (by omega),
    wr (x := ((s.f2 - 1) * n.f1 + (s.f1 - 1)) * n.f0 + s.f0) (by omega), wr (by omega)]
  omega
theorem sz_inB {n : S23} (hn : okN n) {i : Int} (h0 : 0 ≤ i) (h1 : i < cnt n) : inB n (sz n i) := by
  have hn' := hn
  unfold okN at hn'
  have a := Int.emod_nonneg i (show n.f0 ≠ 0 by omega)
  have b := Int.emod_lt_of_pos i (show 0 < n.f0 by omega)
  have c := Int.emod_nonneg (i / n.f0) (show n.f1 ≠ 0 by omega)
  have d := Int.emod_lt_of_pos (i / n.f0) (show 0 < n.f1 by omega)
  have e : 0 ≤ i / n.f0 := Int.ediv_nonneg h0 (by omega)
  have f : 0 ≤ i / n.f0 / n.f1 := Int.ediv_nonneg e (by omega)
  have g : i / n.f0 / n.f1 < n.f2 := by
    rw [Int.ediv_lt_iff_lt_mul (by omega), Int.ediv_lt_iff_lt_mul (by omega)]
    have : n.f2 * n.f1 * n.f0 = cnt n := by unfold cnt; rw [Int.mul_comm n.f2 n.f1, Int.mul_comm (n.f1 * n.f2) n.f0, ← Int.mul_assoc]
    omega
  unfold inB sz
  refine ⟨⟨?_, ?_⟩, ⟨?_, ?_⟩, ?_, ?_⟩ <;> dsimp only <;> omega
theorem ix_sz (n : S23) (i : Int) : ix n (sz n i) = i := by
  unfold ix sz
  dsimp only
  have a := Int.mul_ediv_add_emod (i / n.f0) n.f1
  have b := Int.mul_ediv_add_emod i n.f0
  rw [show i / n.f0 / n.f1 + 1 - 1 = i / n.f0 / n.f1 by omega, show i / n.f0 % n.f1 + 1 - 1 = i / n.f0 % n.f1 by omega, Int.mul_comm, Int.mul_comm _ n.f1, a]
  omega
theorem sz_ix {n s : S23} (hs : inB n s) : sz n (ix n s) = s := by
  have hs' := hs
  unfold inB at hs'
  have hp0 : n.f0 ≠ 0 := by omega
  have hp1 : n.f1 ≠ 0 := by omega
  have a : ix n s / n.f0 = (s.f2 - 1) * n.f1 + (s.f1 - 1) := by
    unfold ix
    rw [Int.add_comm, Int.add_mul_ediv_right _ _ hp0, Int.ediv_eq_zero_of_lt (by omega) (by omega)]
    omega
  have b : ix n s % n.f0 = s.f0 - 1 := by
    unfold ix
    rw [Int.add_comm, Int.add_mul_emod_self_right, Int.emod_eq_of_lt (by omega) (by omega)]
  have c : ((s.f2 - 1) * n.f1 + (s.f1 - 1)) / n.f1 = s.f2 - 1 := by
    rw [Int.add_comm, Int.add_mul_ediv_right _ _ hp1, Int.ediv_eq_zero_of_lt (by omega) (by omega)]
    omega
  have d : ((s.f2 - 1) * n.f1 + (s.f1 - 1)) % n.f1 = s.f1 - 1 := by
    rw [Int.add_comm, Int.add_mul_emod_self_right, Int.emod_eq_of_lt (by omega) (by omega)]
  unfold sz
  rw [a, b, c, d]
  exact S23.ext' (show s.f0 - 1 + 1 = s.f0 by omega) (show s.f1 - 1 + 1 = s.f1 by omega) (show s.f2 - 1 + 1 = s.f2 by omega)
theorem size_eq {n : S23} (hn : okN n) (kf : Int) (its : List S56) {i : Int} (h0 : 0 ≤ i) (h1 : i < cnt n) : boxpack_Problem_size.f n.f0 n.f1 n.f2 kf its i = some ((sz n i).f0, (sz n i).f1, (sz n i).f2) := by
  have hb := sz_inB hn h0 h1
  have hn' := hn
  unfold okN at hn'
  unfold inB at hb
  have e : 0 ≤ i / n.f0 := Int.ediv_nonneg h0 (by omega)
  have e2 : i / n.f0 ≤ i := Int.ediv_le_self _ h0
  have hc := cnt_le hn
  unfold boxpack_Problem_size.f
  rw [if_neg (by omega), if_neg (by omega), Int.tmod_eq_emod_of_nonneg h0, Int.tdiv_eq_ediv_of_nonneg h0, wr (x := i / n.f0) (by omega), Int.tmod_eq_emod_of_nonneg e, Int.tdiv_eq_ediv_of_nonneg e]
  unfold sz at hb ⊢
  dsimp only at hb ⊢
  rw [wr (x := i / n.f0 / n.f1) (by omega), wr (by omega), wr (by omega), wr (by omega)]
theorem set_of (s : S23) (ax v : Int) (ha : 0 ≤ ax ∧ ax ≤ 2) : (setAx s ax v = ⟨v, s.f1, s.f2⟩ ∧ getAx s ax = s.f0) ∨ (setAx s ax v = ⟨s.f0, v, s.f2⟩ ∧ getAx s ax = s.f1) ∨ (setAx s ax v = ⟨s.f0, s.f1, v⟩ ∧ getAx s ax = s.f2) := by
  have h1 : ax = 0 ∨ ax = 1 ∨ ax = 2 := by omega
  rcases h1 with rfl | rfl | rfl
  · exact Or.inl ⟨rfl, rfl⟩
  · exact Or.inr (Or.inl ⟨rfl, rfl⟩)
  · exact Or.inr (Or.inr ⟨rfl, rfl⟩)
def ctA (kf : Int) (s : S23) (ax pos : Int) : Ct := ⟨ax, pos, setAx s ax pos, setAx s ax (getAx s ax - pos - kf)⟩
theorem mem_cutsA {kf : Int} {s : S23} {ax : Int} {c : Ct} : c ∈ cutsA kf s ax ↔ ∃ pos, 1 ≤ pos ∧ pos + kf < getAx s ax ∧ c = ctA kf s ax pos := by
  unfold cutsA ctA
  simp only [List.mem_map, List.mem_range]
  constructor
  · rintro ⟨i, hi, rfl⟩
    exact ⟨(i : Int) + 1, by omega, by omega, rfl⟩
  · rintro ⟨pos, h1, h2, rfl⟩
    refine ⟨(pos - 1).toNat, by omega, ?_⟩
    rw [show (((pos - 1).toNat : Nat) : Int) + 1 = pos by omega]
theorem mem_cutsL {kf : Int} {s : S23} {c : Ct} : c ∈ cutsL kf s ↔ ∃ ax pos, (0 ≤ ax ∧ ax ≤ 2) ∧ 1 ≤ pos ∧ pos + kf < getAx s ax ∧ c = ctA kf s ax pos := by
  unfold cutsL
  simp only [List.mem_append, mem_cutsA]
  constructor
  · rintro (⟨p, h⟩ | ⟨p, h⟩ | ⟨p, h⟩)
    · exact ⟨0, p, by decide, h⟩
    · exact ⟨1, p, by decide, h⟩
    · exact ⟨2, p, by decide, h⟩
  · rintro ⟨ax, p, ha, h⟩
    have h1 : ax = 0 ∨ ax = 1 ∨ ax = 2 := by omega
    rcases h1 with rfl | rfl | rfl
    · exact Or.inl ⟨p, h⟩
    · exact Or.inr (Or.inl ⟨p, h⟩)
    · exact Or.inr (Or.inr ⟨p, h⟩)
theorem set_inB {n s : S23} (hs : inB n s) {ax v : Int} (ha : 0 ≤ ax ∧ ax ≤ 2) (h1 : 1 ≤ v) (h2 : v ≤ getAx s ax) : inB n (setAx s ax v) := by
  unfold inB at hs ⊢
  rcases set_of s ax v ha with ⟨e, g⟩ | ⟨e, g⟩ | ⟨e, g⟩ <;> rw [e] <;> dsimp only <;> omega
theorem set_ix {n s : S23} (hn : okN n) {ax v : Int} (ha : 0 ≤ ax ∧ ax ≤ 2) (h2 : v < getAx s ax) : ix n (setAx s ax v) < ix n s := by
  unfold okN at hn
  have key : ∀ a b m : Int, a < b → 1 ≤ m → a * m < b * m := fun a b m h hm => Int.mul_lt_mul_of_pos_right h (by omega)
  unfold ix
  rcases set_of s ax v ha with ⟨e, g⟩ | ⟨e, g⟩ | ⟨e, g⟩ <;> rw [e] <;> dsimp only
  · omega
  · have := key ((s.f2 - 1) * n.f1 + (v - 1)) ((s.f2 - 1) * n.f1 + (s.f1 - 1)) n.f0 (by omega) (by omega)
    omega
  · have h3 := key (v - 1) (s.f2 - 1) n.f1 (by omega) (by omega)
    have := key ((v - 1) * n.f1 + (s.f1 - 1)) ((s.f2 - 1) * n.f1 + (s.f1 - 1)) n.f0 (by omega) (by omega)
    omega
theorem cut_in {n s : S23} {kf : Int} (hn : okN n) (hs : inB n s) (hk : 0 ≤ kf) {c : Ct} (hc : c ∈ cutsL kf s) : (inB n c.l ∧ ix n c.l < ix n s) ∧ (inB n c.r ∧ ix n c.r < ix n s) := by
  obtain ⟨ax, pos, ha, h1, h2, rfl⟩ := mem_cutsL.1 hc
  exact ⟨⟨set_inB hs ha h1 (by omega), set_ix hn ha (by omega)⟩, ⟨set_inB hs ha (by omega) (by omega), set_ix hn ha (by omega)⟩⟩
theorem cut_ok {n s : S23} {kf : Int} {tb : List Int} (hn : okN n) (hs : inB n s) (hk : 0 ≤ kf ∧ kf ≤ 24) (ht : (tb.length : Int) = cnt n) : cutOk n.f0 n.f1 kf tb s = true := by
  unfold cutOk
  rw [Bool.and_eq_true, List.all_eq_true]
  have hn' := hn
  have hs' := hs
  unfold okN at hn'
  unfold inB at hs'
  refine ⟨decide_eq_true (by omega), fun c hc => ?_⟩
  obtain ⟨⟨hl, _⟩, hr, _⟩ := cut_in hn hs hk.1 hc
  have a := ix_lt hl
  have b := ix_lt hr
  unfold ixOk
  rw [ixS_eq hn hl, ixS_eq hn hr]
  simp only [Bool.and_eq_true, decide_eq_true_eq]
  omega
def itemsV (s : S23) (its : List S56) (v : Int) : Int := its.foldl (fun v x => if fitsB x.f1 s = true then mx v x.f2 else v) v
def needV (n : S23) (kf : Int) (its : List S56) (tb : List Int) (s : S23) : Int := (cutsL kf s).foldl (fun v c => mx v (both n.f0 n.f1 tb c)) (itemsV s its 0)
theorem fitsf (a b : S23) : boxpack_fits.f a.f0 a.f1 a.f2 b.f0 b.f1 b.f2 = some (fitsB a b) := by
  unfold boxpack_fits.f fitsB
  by_cases h0 : a.f0 ≤ b.f0 <;> by_cases h1 : a.f1 ≤ b.f1 <;> simp [h0, h1]
theorem leastl_ev {n s : S23} {kf : Int} (its : List S56) {tb : List Int} (hn : okN n) (hs : inB n s) (hk : 0 ≤ kf ∧ kf ≤ 24) (hi : its.length < 1000000) (ht : (tb.length : Int) = cnt n) : ∀ (q p : List S56) (v : Int), p ++ q = its →
    Ev (fun k => boxpack_Problem_least.l0 k its (its.length : Int) (p.length : Int) n.f0 n.f1 n.f2 kf its tb s.f0 s.f1 s.f2 v) ((cutsL kf s).foldl (fun v c => mx v (both n.f0 n.f1 tb c)) (itemsV s q v))
  | [], p, v, hp => by
    refine Ev.const1 (fun k => ?_)
    rw [boxpack_Problem_least.l0, if_neg (by rw [← hp]; simp), cutv, show (⟨s.f0, s.f1, s.f2⟩ : S23) = s from rfl, if_pos (cut_ok hn hs hk ht)]
    rfl
  | x :: q, p, v, hp => by
    have h2 : (p.length : Int) < (its.length : Int) := by rw [← hp]; exact len_app p q x
    have hx : rd_T56 its (p.length : Int) = x := by rw [← hp]; exact rd56_app p q x
    have ih := leastl_ev its hn hs hk hi ht q (p ++ [x]) (if fitsB x.f1 s = true then mx v x.f2 else v) (by rw [← hp]; simp)
    rw [len_snoc] at ih
    refine Ev.step (f := fun k => boxpack_Problem_least.l0 k its (its.length : Int) ((p.length : Int) + 1) n.f0 n.f1 n.f2 kf its tb s.f0 s.f1 s.f2 (if fitsB x.f1 s = true then mx v x.f2 else v)) (fun k => ?_) ih
    rw [boxpack_Problem_least.l0, if_pos h2, if_pos (by omega), if_pos h2, hx, wrn _ (by omega)]
    simp only [boxpack_sides.f, Option.bind_some]
    rw [fitsf x.f1 s]
    simp only [Option.bind_some]
    cases fitsB x.f1 s <;> rfl
theorem least_ev {n s : S23} {kf : Int} (its : List S56) {tb : List Int} (hn : okN n) (hs : inB n s) (hk : 0 ≤ kf ∧ kf ≤ 24) (hi : its.length < 1000000) (ht : (tb.length : Int) = cnt n) :
    Ev (fun k => boxpack_Problem_least.f k n.f0 n.f1 n.f2 kf its tb s.f0 s.f1 s.f2) (needV n kf its tb s) := leastl_ev its hn hs hk hi ht its [] 0 rfl
def tabGo (n : S23) (kf : Int) (its : List S56) : Nat → Nat → List Int → List Int
  | 0, _, tb => tb
  | m + 1, i, tb => tabGo n kf its m (i + 1) (tb.set i (needV n kf its tb (sz n i)))
def tabT (n : S23) (kf : Int) (its : List S56) : List Int := tabGo n kf its (cnt n).toNat 0 (List.replicate (cnt n).toNat 0)
theorem chk_ok {n : S23} {kf : Int} {its : List S56} (h : chk n kf its = 0) : okN n ∧ (0 ≤ kf ∧ kf ≤ 24) ∧ its.length ≤ 6 ∧ its.all itOk = true ∧ dup [] its = false := by
  unfold chk at h
  by_cases h6 : its.length > 6
  · rw [if_pos h6] at h; omega
  rw [if_neg h6] at h
  cases h1 : its.any nameless <;> rw [h1] at h
  · simp only [Bool.false_eq_true, if_false] at h
    cases h2 : (pos3 n && decide (0 ≤ kf ∧ kf ≤ 24) && its.all itOk) <;> rw [h2] at h
    · simp at h
    · simp only [if_true] at h
      simp only [Bool.and_eq_true, decide_eq_true_eq] at h2
      refine ⟨pos3_ok h2.1.1, h2.1.2, by omega, h2.2, ?_⟩
      cases h3 : dup [] its
      · rfl
      · rw [h3] at h; simp at h
  · simp at h
theorem count_eq {n : S23} (hn : okN n) (kf : Int) (its : List S56) : boxpack_Problem_count.f n.f0 n.f1 n.f2 kf its = some (cnt n) := by
  have hc := cnt_le hn
  have hn' := hn
  unfold okN at hn'
  have m := mul_le (a := n.f0) (b := n.f1) (A := 24) (B := 24) (by omega) (by omega) (by omega) (by omega)
  unfold boxpack_Problem_count.f
  rw [wr (x := n.f0 * n.f1) (by omega)]
  unfold cnt at hc ⊢
  rw [wr (by omega)]
theorem tabl_ev {n : S23} {kf : Int} {its : List S56} (hn : okN n) (hk : 0 ≤ kf ∧ kf ≤ 24) (hi : its.length < 1000000) : ∀ (m i : Nat) (tb : List Int), (tb.length : Int) = cnt n → i + m = (cnt n).toNat →
    Ev (fun k => boxpack_Problem_table.l0 k tb (cnt n) (i : Int) n.f0 n.f1 n.f2 kf its) (tabGo n kf its m i tb)
  | 0, i, tb, ht, hm => by
    have hc := cnt_le hn
    refine Ev.const1 (fun k => ?_)
    rw [boxpack_Problem_table.l0, if_neg (by omega)]
    rfl
  | m + 1, i, tb, ht, hm => by
    have hc := cnt_le hn
    have h0 : (0 : Int) ≤ (i : Int) := by omega
    have h1 : (i : Int) < cnt n := by omega
    have ih := tabl_ev hn hk hi m (i + 1) (tb.set i (needV n kf its tb (sz n i))) (by rw [List.length_set]; exact ht) (by omega)
    refine Ev.step (f := fun k => (boxpack_Problem_least.f k n.f0 n.f1 n.f2 kf its tb (sz n i).f0 (sz n i).f1 (sz n i).f2).bind fun t164 => boxpack_Problem_table.l0 k (tb.set i t164) (cnt n) (((i + 1 : Nat)) : Int) n.f0 n.f1 n.f2 kf its) (fun k => ?_) ?_
    · rw [boxpack_Problem_table.l0, if_pos h1, size_eq hn kf its h0 h1, wrn i (by omega)]
      simp only [Option.bind_some]
      congr 1
      funext t
      rw [if_pos h0, if_pos (by omega), Int.toNat_natCast]
      rfl
    · exact Ev.bind (f := fun k t164 => boxpack_Problem_table.l0 k (tb.set i t164) (cnt n) (((i + 1 : Nat)) : Int) n.f0 n.f1 n.f2 kf its) (least_ev its hn (sz_inB hn h0 h1) hk hi ht) ih
theorem table_ev {n : S23} {kf : Int} {its : List S56} (hn : okN n) (hk : 0 ≤ kf ∧ kf ≤ 24) (hi : its.length < 1000000) : Ev (fun k => boxpack_Problem_table.f k n.f0 n.f1 n.f2 kf its) (tabT n kf its) := by
  have hc := cnt_le hn
  refine Ev.congr (f := fun k => boxpack_Problem_table.l0 k (List.replicate (cnt n).toNat 0) (cnt n) ((0 : Nat) : Int) n.f0 n.f1 n.f2 kf its) (fun k => ?_) (tabl_ev hn hk hi (cnt n).toNat 0 _ (by simp; omega) (by omega))
  show boxpack_Problem_table.f k n.f0 n.f1 n.f2 kf its = _
  unfold boxpack_Problem_table.f
  rw [count_eq hn]
  simp only [Option.bind_some]
  rw [if_pos (by omega), if_pos (by omega), List.length_replicate, show (((cnt n).toNat : Nat) : Int) = cnt n by omega]
  rfl
theorem Table_ev (n : S23) (kf : Int) (its : List S56) : Ev (fun k => boxpack_Table.f k n.f0 n.f1 n.f2 kf its) (if chk n kf its = 0 then (tabT n kf its, 0) else ([], chk n kf its)) := by
  unfold boxpack_Table.f
  refine Ev.bind (f := fun k t167 => if t167 = 0 then ((boxpack_Problem_table.f k n.f0 n.f1 n.f2 kf its).bind fun t168 => (some (t168, 0))) else (some (([] : List Int), t167))) (check_ev n kf its) ?_
  by_cases hc : chk n kf its = 0
  · obtain ⟨hn, hk, hi, _⟩ := chk_ok hc
    simp only [if_pos hc]
    exact Ev.bind (f := fun _ t168 => some (t168, 0)) (table_ev hn hk (by omega)) (Ev.now _)
  · simp only [if_neg hc]
    exact Ev.now _
theorem tabGo_len (n : S23) (kf : Int) (its : List S56) : ∀ (m i : Nat) (tb : List Int), (tabGo n kf its m i tb).length = tb.length
  | 0, _, _ => rfl
  | m + 1, i, tb => by rw [tabGo, tabGo_len n kf its m, List.length_set]
theorem tabT_len (n : S23) (kf : Int) (its : List S56) : (tabT n kf its).length = (cnt n).toNat := by
  unfold tabT
  rw [tabGo_len, List.length_replicate]

theorem mx_le {a b v : Int} : mx a b ≤ v ↔ a ≤ v ∧ b ≤ v := by unfold mx; by_cases h : a < b <;> simp [h] <;> omega
theorem items_le (s : S23) : ∀ (its : List S56) (u v : Int), itemsV s its u ≤ v ↔ u ≤ v ∧ ∀ x ∈ its, fitsB x.f1 s = true → x.f2 ≤ v
  | [], u, v => by simp [itemsV]
  | x :: q, u, v => by
    have ih := items_le s q (if fitsB x.f1 s = true then mx u x.f2 else u) v
    show itemsV s q (if fitsB x.f1 s = true then mx u x.f2 else u) ≤ v ↔ _
    rw [ih]
    simp only [List.mem_cons, forall_eq_or_imp]
    cases h : fitsB x.f1 s
    · simp
    · simp only [if_true, mx_le, true_imp_iff]
      exact ⟨fun h => ⟨h.1.1, h.1.2, h.2⟩, fun h => ⟨⟨h.1, h.2.1⟩, h.2.2⟩⟩
theorem cuts_le (g : Ct → Int) : ∀ (l : List Ct) (u v : Int), l.foldl (fun v c => mx v (g c)) u ≤ v ↔ u ≤ v ∧ ∀ c ∈ l, g c ≤ v
  | [], u, v => by simp
  | x :: q, u, v => by
    rw [List.foldl_cons, cuts_le g q]
    simp only [List.mem_cons, forall_eq_or_imp, mx_le]
    exact ⟨fun h => ⟨h.1.1, h.1.2, h.2⟩, fun h => ⟨⟨h.1, h.2.1⟩, h.2.2⟩⟩
theorem cuts_congr (g g' : Ct → Int) : ∀ (l : List Ct) (u : Int), (∀ c ∈ l, g c = g' c) → l.foldl (fun v c => mx v (g c)) u = l.foldl (fun v c => mx v (g' c)) u
  | [], u, _ => rfl
  | x :: q, u, h => by
    rw [List.foldl_cons, List.foldl_cons, h x List.mem_cons_self]
    exact cuts_congr g g' q _ (fun c hc => h c (List.mem_cons_of_mem _ hc))
theorem need_le {n : S23} {kf : Int} {its : List S56} {tb : List Int} {s : S23} {v : Int} : needV n kf its tb s ≤ v ↔ 0 ≤ v ∧ (∀ x ∈ its, fitsB x.f1 s = true → x.f2 ≤ v) ∧ ∀ c ∈ cutsL kf s, both n.f0 n.f1 tb c ≤ v := by
  unfold needV
  rw [cuts_le, items_le, and_assoc]
theorem both_eq {n : S23} (hn : okN n) {kf : Int} (hk : 0 ≤ kf) {s : S23} (hs : inB n s) (tb : List Int) {c : Ct} (hc : c ∈ cutsL kf s) : both n.f0 n.f1 tb c = wrap64 (rd tb (ix n c.l) + rd tb (ix n c.r)) := by
  obtain ⟨⟨hl, _⟩, hr, _⟩ := cut_in hn hs hk hc
  unfold both
  rw [ixS_eq hn hl, ixS_eq hn hr]
theorem need_congr {n : S23} (hn : okN n) {kf : Int} (hk : 0 ≤ kf) (its : List S56) {s : S23} (hs : inB n s) {tb tb' : List Int} (h : ∀ j, 0 ≤ j → j < ix n s → rd tb j = rd tb' j) : needV n kf its tb s = needV n kf its tb' s := by
  unfold needV
  refine cuts_congr _ _ _ _ (fun c hc => ?_)
  obtain ⟨⟨hl, hl'⟩, hr, hr'⟩ := cut_in hn hs hk hc
  rw [both_eq hn hk hs _ hc, both_eq hn hk hs _ hc, h _ (ix_lt hl).1 hl', h _ (ix_lt hr).1 hr']
theorem rd_set (tb : List Int) (i : Nat) (v : Int) (j : Int) (h0 : 0 ≤ j) (hi : i < tb.length) : rd (tb.set i v) j = if j = (i : Int) then v else rd tb j := by
  unfold rd
  rw [List.getD_eq_getElem?_getD, List.getElem?_set]
  by_cases h : j = (i : Int)
  · rw [if_pos (by omega), if_pos hi, if_pos h]; rfl
  · rw [if_neg (by omega), if_neg h, List.getD_eq_getElem?_getD]
theorem tab_fix_go {n : S23} (hn : okN n) {kf : Int} (hk : 0 ≤ kf) (its : List S56) : ∀ (m i : Nat) (tb : List Int), (tb.length : Int) = cnt n → i + m = (cnt n).toNat → (∀ j : Int, 0 ≤ j → j < (i : Int) → rd tb j = needV n kf its tb (sz n j)) → ∀ j : Int, 0 ≤ j → j < cnt n → rd (tabGo n kf its m i tb) j = needV n kf its (tabGo n kf its m i tb) (sz n j)
  | 0, i, tb, ht, hm, h, j, h0, h1 => h j h0 (by have := cnt_le hn; omega)
  | m + 1, i, tb, ht, hm, h, j, h0, h1 => by
    rw [tabGo]
    refine tab_fix_go hn hk its m (i + 1) _ (by rw [List.length_set]; exact ht) (by omega) (fun j h0 h1 => ?_) j h0 h1
    have hj : j < cnt n := by have := cnt_le hn; omega
    rw [rd_set _ _ _ _ h0 (by have := cnt_le hn; omega)]
    have hc : needV n kf its (tb.set i (needV n kf its tb (sz n i))) (sz n j) = needV n kf its tb (sz n j) := need_congr hn hk its (sz_inB hn h0 hj) (fun q q0 q1 => by
      rw [ix_sz] at q1
      rw [rd_set _ _ _ _ q0 (by have := cnt_le hn; omega), if_neg (by omega)])
    rw [hc]
    by_cases e : j = (i : Int)
    · rw [if_pos e, e]
    · rw [if_neg e]
      exact h j h0 (by omega)
theorem tab_fix {n : S23} (hn : okN n) {kf : Int} (hk : 0 ≤ kf) (its : List S56) {j : Int} (h0 : 0 ≤ j) (h1 : j < cnt n) : rd (tabT n kf its) j = needV n kf its (tabT n kf its) (sz n j) :=
  tab_fix_go hn hk its _ 0 _ (by simp; have := cnt_le hn; omega) (by omega) (fun j _ h => absurd h (by omega)) j h0 h1
theorem tab_fixS {n s : S23} (hn : okN n) {kf : Int} (hk : 0 ≤ kf) (its : List S56) (hs : inB n s) : rd (tabT n kf its) (ix n s) = needV n kf its (tabT n kf its) s := by
  have := tab_fix hn hk its (ix_lt hs).1 (ix_lt hs).2
  rw [sz_ix hs] at this
  exact this
def vol (s : S23) : Int := s.f0 * s.f1 * s.f2
theorem vol_pos {n s : S23} (hs : inB n s) : 1 ≤ vol s := by
  unfold inB at hs
  unfold vol
  have c := Int.mul_le_mul hs.1.1 hs.2.1.1 (by decide) (show 0 ≤ s.f0 by omega)
  have d := Int.mul_le_mul c hs.2.2.1 (by decide) (Int.mul_nonneg (show 0 ≤ s.f0 by omega) (show 0 ≤ s.f1 by omega))
  omega
theorem vol_le {n s : S23} (hn : okN n) (hs : inB n s) : vol s ≤ 13824 := by
  have : okN s := by unfold okN inB at *; omega
  exact (cnt_le this).2
theorem vol_add (a b c p q : Int) (hb : 1 ≤ b) (hc : 1 ≤ c) (h : p + q ≤ a) : p * b * c + q * b * c ≤ a * b * c := by
  rw [← Int.add_mul, ← Int.add_mul]
  exact Int.mul_le_mul_of_nonneg_right (Int.mul_le_mul_of_nonneg_right h (by omega)) (by omega)
theorem vol_cut {n s : S23} {kf : Int} (hn : okN n) (hs : inB n s) (hk : 0 ≤ kf) {c : Ct} (hc : c ∈ cutsL kf s) : vol c.l + vol c.r ≤ vol s := by
  obtain ⟨ax, pos, ha, h1, h2, rfl⟩ := mem_cutsL.1 hc
  unfold inB at hs
  show vol (setAx s ax pos) + vol (setAx s ax (getAx s ax - pos - kf)) ≤ vol s
  have h3 : ax = 0 ∨ ax = 1 ∨ ax = 2 := by omega
  rcases h3 with rfl | rfl | rfl
  · exact vol_add s.f0 s.f1 s.f2 pos (s.f0 - pos - kf) (by omega) (by omega) (by omega)
  · have := vol_add s.f1 s.f0 s.f2 pos (s.f1 - pos - kf) (by omega) (by omega) (by omega)
    show s.f0 * pos * s.f2 + s.f0 * (s.f1 - pos - kf) * s.f2 ≤ s.f0 * s.f1 * s.f2
    rw [Int.mul_comm s.f0 pos, Int.mul_comm s.f0 (s.f1 - pos - kf), Int.mul_comm s.f0 s.f1]
    exact this
  · have := vol_add s.f2 s.f0 s.f1 pos (s.f2 - pos - kf) (by omega) (by omega) (by omega)
    show s.f0 * s.f1 * pos + s.f0 * s.f1 * (s.f2 - pos - kf) ≤ s.f0 * s.f1 * s.f2
    rw [Int.mul_comm (s.f0 * s.f1) pos, Int.mul_comm (s.f0 * s.f1) (s.f2 - pos - kf), Int.mul_comm (s.f0 * s.f1) s.f2, ← Int.mul_assoc, ← Int.mul_assoc, ← Int.mul_assoc]
    exact this
theorem itOk_v {its : List S56} (h : its.all itOk = true) {x : S56} (hx : x ∈ its) : (inB ⟨24, 24, 24⟩ x.f1) ∧ 0 ≤ x.f2 ∧ x.f2 ≤ 1000000000 := by
  have := List.all_eq_true.1 h x hx
  unfold itOk at this
  simp only [Bool.and_eq_true, decide_eq_true_eq] at this
  exact ⟨pos3_ok this.1, this.2⟩
theorem tab_small {n : S23} (hn : okN n) {kf : Int} (hk : 0 ≤ kf) {its : List S56} (hit : its.all itOk = true) : ∀ (m : Nat) (s : S23), inB n s → (ix n s).toNat < m → 0 ≤ rd (tabT n kf its) (ix n s) ∧ rd (tabT n kf its) (ix n s) ≤ 1000000000 * vol s
  | 0, s, hs, h => absurd h (by omega)
  | m + 1, s, hs, h => by
    have hv := vol_pos hs
    rw [tab_fixS hn hk its hs]
    refine ⟨(need_le.1 (Int.le_refl _)).1, need_le.2 ⟨by omega, fun x hx _ => ?_, fun c hc => ?_⟩⟩
    · have := (itOk_v hit hx).2
      omega
    · obtain ⟨⟨hl, hl'⟩, hr, hr'⟩ := cut_in hn hs hk hc
      have a := tab_small hn hk hit m c.l hl (by have := ix_lt hl; omega)
      have b := tab_small hn hk hit m c.r hr (by have := ix_lt hr; omega)
      have v := vol_cut hn hs hk hc
      have w := vol_le hn hs
      rw [both_eq hn hk hs _ hc, wr (by omega)]
      omega
theorem tab_le {n s : S23} (hn : okN n) {kf : Int} (hk : 0 ≤ kf) {its : List S56} (hit : its.all itOk = true) (hs : inB n s) : 0 ≤ rd (tabT n kf its) (ix n s) ∧ rd (tabT n kf its) (ix n s) ≤ 13824000000000 := by
  have := tab_small hn hk hit _ s hs (Nat.lt_succ_self _)
  have := vol_le hn hs
  omega
theorem rd23_set (ps : List S23) (k : Nat) (p : S23) (x : Int) (hk : k < ps.length) : rd_T23 (ps.set k p) x = if x.toNat = k then p else rd_T23 ps x := by
  unfold rd_T23
  rw [List.getD_eq_getElem?_getD, List.getElem?_set]
  by_cases h : k = x.toNat
  · rw [if_pos h, if_pos (by omega), if_pos h.symm]; rfl
  · rw [if_neg h, if_neg (fun hh => h hh.symm), List.getD_eq_getElem?_getD]
def PB (p b : S23) : Prop := (0 ≤ p.f0 ∧ 0 ≤ b.f0 ∧ p.f0 + b.f0 ≤ 24) ∧ (0 ≤ p.f1 ∧ 0 ≤ b.f1 ∧ p.f1 + b.f1 ≤ 24) ∧ (0 ≤ p.f2 ∧ 0 ≤ b.f2 ∧ p.f2 + b.f2 ≤ 24)
theorem PB.ax {p b : S23} (h : PB p b) {ax : Int} (ha : 0 ≤ ax ∧ ax ≤ 2) : 0 ≤ getAx p ax ∧ 0 ≤ getAx b ax ∧ getAx p ax + getAx b ax ≤ 24 := by
  unfold PB at h
  have h1 : ax = 0 ∨ ax = 1 ∨ ax = 2 := by omega
  rcases h1 with rfl | rfl | rfl
  · exact h.1
  · exact h.2.1
  · exact h.2.2
theorem PB.set {p b : S23} (h : PB p b) {ax v w : Int} (ha : 0 ≤ ax ∧ ax ≤ 2) (hv : 0 ≤ v) (hw : 0 ≤ w) (hvw : v + w ≤ 24) : PB (setAx p ax v) (setAx b ax w) := by
  unfold PB at h ⊢
  have h1 : ax = 0 ∨ ax = 1 ∨ ax = 2 := by omega
  rcases h1 with rfl | rfl | rfl
  · exact ⟨⟨hv, hw, hvw⟩, h.2⟩
  · exact ⟨h.1, ⟨hv, hw, hvw⟩, h.2.2⟩
  · exact ⟨h.1, h.2.1, ⟨hv, hw, hvw⟩⟩
def PBs (ps bs : List S23) : Prop := ∀ x : Int, PB (rd_T23 ps x) (rd_T23 bs x)
theorem PBs.set {ps bs : List S23} (h : PBs ps bs) (hl : ps.length = bs.length) {k : Nat} (hk : k < ps.length) {p b : S23} (hp : PB p b) : PBs (ps.set k p) (bs.set k b) := fun x => by
  rw [rd23_set ps k p x hk, rd23_set bs k b x (by omega)]
  by_cases e : x.toNat = k
  · rw [if_pos e, if_pos e]; exact hp
  · rw [if_neg e, if_neg e]; exact h x
theorem awk : lw_awake.f 100 = some true := by decide +kernel
theorem awake_ev : Ev (fun k => lw_awake.f k) true := Ev.of (fun k => lw_awake.mono k) awk
theorem tab_lenI {n : S23} (hn : okN n) (kf : Int) (its : List S56) : ((tabT n kf its).length : Int) = cnt n := by
  have := cnt_le hn
  rw [tabT_len]
  omega
instance (n s : S23) : Decidable (inB n s) := by unfold inB; infer_instance
theorem ix_top {n : S23} (hn : okN n) : inB n n ∧ ix n n = cnt n - 1 := by
  unfold okN at hn
  refine ⟨by unfold inB; omega, ?_⟩
  unfold ix cnt
  rw [Int.sub_mul n.f2 1 n.f1, Int.one_mul, show n.f2 * n.f1 - n.f1 + (n.f1 - 1) = n.f2 * n.f1 - 1 by omega, Int.sub_mul, Int.one_mul, Int.mul_comm n.f2 n.f1, Int.mul_comm (n.f1 * n.f2) n.f0, Int.mul_assoc n.f0]
  omega
def le23 (s t : S23) : Prop := s.f0 ≤ t.f0 ∧ s.f1 ≤ t.f1 ∧ s.f2 ≤ t.f2
theorem le23.ax {s t : S23} (h : le23 s t) {ax : Int} (ha : 0 ≤ ax ∧ ax ≤ 2) : getAx s ax ≤ getAx t ax := by
  have h1 : ax = 0 ∨ ax = 1 ∨ ax = 2 := by omega
  rcases h1 with rfl | rfl | rfl
  · exact h.1
  · exact h.2.1
  · exact h.2.2
theorem le23.set {s t : S23} (h : le23 s t) {ax v w : Int} (ha : 0 ≤ ax ∧ ax ≤ 2) (hv : v ≤ w) : le23 (setAx s ax v) (setAx t ax w) := by
  have h1 : ax = 0 ∨ ax = 1 ∨ ax = 2 := by omega
  rcases h1 with rfl | rfl | rfl
  · exact ⟨hv, h.2⟩
  · exact ⟨h.1, hv, h.2.2⟩
  · exact ⟨h.1, h.2.1, hv⟩
theorem fits_le {a s t : S23} (h : le23 s t) (hf : fitsB a s = true) : fitsB a t = true := by
  unfold fitsB at hf ⊢
  unfold le23 at h
  simp only [Bool.and_eq_true, decide_eq_true_eq] at hf ⊢
  omega
theorem grow_le {n n' : S23} {kf kf' : Int} {its its' : List S56} (hc : chk n kf its = 0) (hc' : chk n' kf' its' = 0) (hk : kf' ≤ kf) (hi : ∀ x ∈ its, x ∈ its') : ∀ (m : Nat) (s s' : S23), inB n s → inB n' s' → le23 s s' → (ix n s).toNat < m → rd (tabT n kf its) (ix n s) ≤ rd (tabT n' kf' its') (ix n' s')
  | 0, s, s', _, _, _, h => absurd h (by omega)
  | m + 1, s, s', hs, hs', hl, h => by
    obtain ⟨hn, hkf, hil, hit, _⟩ := chk_ok hc
    obtain ⟨hn', hkf', hil', hit', _⟩ := chk_ok hc'
    have hg := tab_le hn' hkf'.1 hit' hs'
    have hle := need_le.1 (Int.le_of_eq (tab_fixS hn' hkf'.1 its' hs').symm)
    rw [tab_fixS hn hkf.1 its hs]
    refine need_le.2 ⟨hg.1, fun x hx hf => hle.2.1 x (hi x hx) (fits_le hl hf), fun c hcm => ?_⟩
    have hci := cut_in hn hs hkf.1 hcm
    obtain ⟨ax, pos, ha, h1, h2, rfl⟩ := mem_cutsL.1 hcm
    have hax := hl.ax ha
    have hcm' : ctA kf' s' ax pos ∈ cutsL kf' s' := mem_cutsL.2 ⟨ax, pos, ha, h1, by omega, rfl⟩
    have hci' := cut_in hn' hs' hkf'.1 hcm'
    obtain ⟨⟨il, ll⟩, ir, lr⟩ := hci
    obtain ⟨⟨il', _⟩, ir', _⟩ := hci'
    have a := grow_le hc hc' hk hi m _ _ il il' (hl.set ha (Int.le_refl _)) (by have := ix_lt il; omega)
    have b := grow_le hc hc' hk hi m _ _ ir ir' (hl.set ha (by omega)) (by have := ix_lt ir; omega)
    have bl := tab_le hn hkf.1 hit il
    have br := tab_le hn hkf.1 hit ir
    have bl' := tab_le hn' hkf'.1 hit' il'
    have br' := tab_le hn' hkf'.1 hit' ir'
    have hv := hle.2.2 _ hcm'
    rw [both_eq hn' hkf'.1 hs' _ hcm', wr (by omega)] at hv
    rw [both_eq hn hkf.1 hs _ hcm, wr (by omega)]
    omega
theorem grow_top {n n' : S23} {kf kf' : Int} {its its' : List S56} (hc : chk n kf its = 0) (hc' : chk n' kf' its' = 0) (hk : kf' ≤ kf) (hi : ∀ x ∈ its, x ∈ its') (hl : le23 n n') : rd (tabT n kf its) (cnt n - 1) ≤ rd (tabT n' kf' its') (cnt n' - 1) := by
  have h := ix_top (chk_ok hc).1
  have h' := ix_top (chk_ok hc').1
  rw [← h.2, ← h'.2]
  exact grow_le hc hc' hk hi _ n n' h.1 h'.1 hl (Nat.lt_succ_self _)
theorem growsf_ev {n n' : S23} {kf kf' : Int} {its its' : List S56} (hc : chk n kf its = 0) (hk : kf' ≤ kf) (hi : ∀ x ∈ its, x ∈ its') (hl : le23 n n') : Ev (fun k => lw_grows.f k (tabT n kf its) n'.f0 n'.f1 n'.f2 kf' its') true := by
  unfold lw_grows.f
  refine Ev.bind (f := fun _ bt451 => (if bt451.2 = 0 then (if (bt451.1.length : Int) > 0 then (if ((tabT n kf its).length : Int) > 0 then (if 0 ≤ (wrap64 ((bt451.1.length : Int) - 1)) then (if (wrap64 ((bt451.1.length : Int) - 1)) < (bt451.1.length : Int) then (if 0 ≤ (wrap64 (((tabT n kf its).length : Int) - 1)) then (if (wrap64 (((tabT n kf its).length : Int) - 1)) < ((tabT n kf its).length : Int) then (some (decide ((rd bt451.1 (wrap64 ((bt451.1.length : Int) - 1))) ≥ (rd (tabT n kf its) (wrap64 (((tabT n kf its).length : Int) - 1)))))) else (none)) else (none)) else (none)) else (none)) else (some false)) else (some false)) else (some true))) (Table_ev n' kf' its') ?_
  by_cases hc' : chk n' kf' its' = 0
  · have h := grow_top hc hc' hk hi hl
    have hn := (chk_ok hc).1
    have hn' := (chk_ok hc').1
    have l1 := tab_lenI hn kf its
    have l2 := tab_lenI hn' kf' its'
    have c1 := cnt_le hn
    have c2 := cnt_le hn'
    refine Ev.const (fun k => ?_)
    simp only [if_pos hc']
    rw [if_pos trivial, l1, l2, if_pos (by omega), if_pos (by omega), wr (x := cnt n' - 1) (by omega), if_pos (by omega), if_pos (by omega), wr (x := cnt n - 1) (by omega), if_pos (by omega), if_pos (by omega), decide_eq_true h]
  · simp only [if_neg hc']
    exact Ev.now _
theorem Grows_ev (n : S23) (kf : Int) (its : List S56) (a : Int) (x : S56) : Ev (fun k => lw_BoxpackGrows.f k n.f0 n.f1 n.f2 kf its a x.f0 x.f1.f0 x.f1.f1 x.f1.f2 x.f2 x.f3 x.f4) true := by
  unfold lw_BoxpackGrows.f
  refine Ev.bind (f := fun k t315 => lw_BoxpackGrows.j0 k a (!t315) n.f0 n.f1 n.f2 kf its x.f0 x.f1.f0 x.f1.f1 x.f1.f2 x.f2 x.f3 x.f4) awake_ev ?_
  refine Ev.step (f := fun k => lw_BoxpackGrows.j1 k a n.f0 n.f1 n.f2 kf its x.f0 x.f1.f0 x.f1.f1 x.f1.f2 x.f2 x.f3 x.f4) (fun k => rfl) ?_
  have hT : Ev (fun k => lw_BoxpackGrows.j2 k a true n.f0 n.f1 n.f2 kf its x.f0 x.f1.f0 x.f1.f1 x.f1.f2 x.f2 x.f3 x.f4) true := Ev.const1 (fun k => rfl)
  have hF : its.length ≤ 5 → 0 ≤ a → Ev (fun k => lw_BoxpackGrows.j2 k a false n.f0 n.f1 n.f2 kf its x.f0 x.f1.f0 x.f1.f1 x.f1.f2 x.f2 x.f3 x.f4) true := by
    intro h5 ha0
    refine Ev.step (f := fun k => lw_BoxpackGrows.j3 k a n.f0 n.f1 n.f2 kf its x.f0 x.f1.f0 x.f1.f1 x.f1.f2 x.f2 x.f3 x.f4) (fun k => rfl) ?_
    refine Ev.step (f := fun k => (boxpack_Table.f k n.f0 n.f1 n.f2 kf its).bind fun bt462 => lw_BoxpackGrows.j4 k a bt462.1 bt462.2 x.f0 x.f1.f0 x.f1.f1 x.f1.f2 x.f2 x.f3 x.f4 n.f0 n.f1 n.f2 kf its) (fun k => rfl) ?_
    refine Ev.bind (f := fun k bt462 => lw_BoxpackGrows.j4 k a bt462.1 bt462.2 x.f0 x.f1.f0 x.f1.f1 x.f1.f2 x.f2 x.f3 x.f4 n.f0 n.f1 n.f2 kf its) (Table_ev n kf its) ?_
    by_cases hc : chk n kf its = 0
    · simp only [if_pos hc]
      have hn := (chk_ok hc).1
      have hkf := (chk_ok hc).2.1
      have hn' := hn
      unfold okN at hn'
      refine Ev.step (f := fun k => lw_BoxpackGrows.j5 k a (tabT n kf its) x.f0 x.f1.f0 x.f1.f1 x.f1.f2 x.f2 x.f3 x.f4 n.f0 n.f1 n.f2 kf its) (fun k => rfl) ?_
      have h6 : ∀ n' : S23, le23 n n' → Ev (fun k => lw_BoxpackGrows.j6 k (tabT n kf its) x.f0 x.f1.f0 x.f1.f1 x.f1.f2 x.f2 x.f3 x.f4 n.f0 n.f1 n.f2 kf its n'.f0 n'.f1 n'.f2 kf its n.f0 n.f1 n.f2 kf its n.f0 n.f1 n.f2 kf its) true := by
        intro n' hl
        have hrefl : le23 n n := ⟨Int.le_refl _, Int.le_refl _, Int.le_refl _⟩
        refine Ev.step (f := fun k => (lw_grows.f k (tabT n kf its) n'.f0 n'.f1 n'.f2 kf its).bind fun t481 => (if t481 = true then ((lw_grows.f k (tabT n kf its) n.f0 n.f1 n.f2 kf (its ++ [x])).bind fun t482 => (if t482 = true then ((lw_grows.f k (tabT n kf its) n.f0 n.f1 n.f2 (kf - 1) its).bind fun t483 => (lw_BoxpackGrows.j7 k t483)) else (lw_BoxpackGrows.j7 k false))) else (lw_BoxpackGrows.j7 k false))) (fun k => ?_) ?_
        · rw [lw_BoxpackGrows.j6]
          simp only [Option.bind_some, List.nil_append, List.length_nil, List.length_singleton, Nat.zero_add]
          rw [if_pos (by omega), if_pos (by omega), wr (x := kf - 1) (by omega)]
        · refine Ev.bind (f := fun k t481 => (if t481 = true then ((lw_grows.f k (tabT n kf its) n.f0 n.f1 n.f2 kf (its ++ [x])).bind fun t482 => (if t482 = true then ((lw_grows.f k (tabT n kf its) n.f0 n.f1 n.f2 (kf - 1) its).bind fun t483 => (lw_BoxpackGrows.j7 k t483)) else (lw_BoxpackGrows.j7 k false))) else (lw_BoxpackGrows.j7 k false))) (growsf_ev hc (Int.le_refl _) (fun _ h => h) hl) ?_
          simp only [if_true]
          refine Ev.bind (f := fun k t482 => (if t482 = true then ((lw_grows.f k (tabT n kf its) n.f0 n.f1 n.f2 (kf - 1) its).bind fun t483 => (lw_BoxpackGrows.j7 k t483)) else (lw_BoxpackGrows.j7 k false))) (growsf_ev hc (Int.le_refl _) (fun _ h => List.mem_append_left _ h) hrefl) ?_
          simp only [if_true]
          exact Ev.bind (f := fun k t483 => (lw_BoxpackGrows.j7 k t483)) (growsf_ev hc (by omega) (fun _ h => h) hrefl) (Ev.const1 (fun k => rfl))
      by_cases a0 : a = 0
      · refine Ev.step (fun k => ?_) (h6 ⟨n.f0 + 1, n.f1, n.f2⟩ ⟨by show n.f0 ≤ n.f0 + 1; omega, Int.le_refl _, Int.le_refl _⟩)
        rw [lw_BoxpackGrows.j5, if_pos a0, wr (x := n.f0 + 1) (by omega)]
      · by_cases a1 : a = 1
        · refine Ev.step (fun k => ?_) (h6 ⟨n.f0, n.f1 + 1, n.f2⟩ ⟨Int.le_refl _, by show n.f1 ≤ n.f1 + 1; omega, Int.le_refl _⟩)
          rw [lw_BoxpackGrows.j5, if_neg a0, if_pos a1, wr (x := n.f1 + 1) (by omega)]
        · refine Ev.step (fun k => ?_) (h6 ⟨n.f0, n.f1, n.f2 + 1⟩ ⟨Int.le_refl _, Int.le_refl _, by show n.f2 ≤ n.f2 + 1; omega⟩)
          rw [lw_BoxpackGrows.j5, if_neg a0, if_neg a1, wr (x := n.f2 + 1) (by omega)]
    · simp only [if_neg hc]
      refine Ev.const1 (fun k => ?_)
      rw [lw_BoxpackGrows.j4, if_neg hc]
  refine Ev.step (f := fun k => (rf_Small.f k n.f0 n.f1 n.f2 kf its 7).bind fun t460 => if t460 = true then (if (its.length : Int) > 5 then lw_BoxpackGrows.j2 k a true n.f0 n.f1 n.f2 kf its x.f0 x.f1.f0 x.f1.f1 x.f1.f2 x.f2 x.f3 x.f4 else (if a < 0 then lw_BoxpackGrows.j2 k a true n.f0 n.f1 n.f2 kf its x.f0 x.f1.f0 x.f1.f1 x.f1.f2 x.f2 x.f3 x.f4 else lw_BoxpackGrows.j2 k a (decide (a > 2)) n.f0 n.f1 n.f2 kf its x.f0 x.f1.f0 x.f1.f1 x.f1.f2 x.f2 x.f3 x.f4)) else lw_BoxpackGrows.j2 k a true n.f0 n.f1 n.f2 kf its x.f0 x.f1.f0 x.f1.f1 x.f1.f2 x.f2 x.f3 x.f4) (fun k => rfl) ?_
  refine Ev.bind (f := fun k t460 => if t460 = true then (if (its.length : Int) > 5 then lw_BoxpackGrows.j2 k a true n.f0 n.f1 n.f2 kf its x.f0 x.f1.f0 x.f1.f1 x.f1.f2 x.f2 x.f3 x.f4 else (if a < 0 then lw_BoxpackGrows.j2 k a true n.f0 n.f1 n.f2 kf its x.f0 x.f1.f0 x.f1.f1 x.f1.f2 x.f2 x.f3 x.f4 else lw_BoxpackGrows.j2 k a (decide (a > 2)) n.f0 n.f1 n.f2 kf its x.f0 x.f1.f0 x.f1.f1 x.f1.f2 x.f2 x.f3 x.f4)) else lw_BoxpackGrows.j2 k a true n.f0 n.f1 n.f2 kf its x.f0 x.f1.f0 x.f1.f1 x.f1.f2 x.f2 x.f3 x.f4) (small_ev n kf its 7) ?_
  cases small n kf its 7
  · exact hT
  · simp only [if_true]
    by_cases h5 : (its.length : Int) > 5
    · simp only [if_pos h5]; exact hT
    · simp only [if_neg h5]
      by_cases a0 : a < 0
      · simp only [if_pos a0]; exact hT
      · simp only [if_neg a0]
        cases decide (a > 2)
        · exact hF (by omega) (by omega)
        · exact hT

end Go.Proofs.Ytgacodhpniehiaa.XA
