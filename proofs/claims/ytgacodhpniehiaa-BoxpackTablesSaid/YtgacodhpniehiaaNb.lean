import Derived.Test.YtgacodhpniehiaaXAx28
set_option linter.unusedVariables false
set_option linter.unusedSimpArgs false
namespace Go.Proofs.Ytgacodhpniehiaa.XA
set_option linter.unusedVariables false
set_option linter.unusedSimpArgs false
open Go.RowKit Opens YtgacodhpniehiaaW.PrintWords YtgacodhpniehiaaW.PrintLast YtgacodhpniehiaaW.PrintMore
theorem wr {x : Int} (h : -9223372036854775808 ≤ x ∧ x ≤ 9223372036854775807) : wrap64 x = x := by unfold wrap64; omega
theorem Ev.eq {α : Type} {g : Nat → Option α} {r s : α} (h : Ev g r) (e : r = s) : Ev g s := e ▸ h
theorem Ev.const {α : Type} {g : Nat → Option α} {r : α} (h : ∀ k, g k = some r) : Ev g r := ⟨0, fun k _ => h k⟩
theorem Ev.const1 {α : Type} {g : Nat → Option α} {r : α} (h : ∀ k, g (k + 1) = some r) : Ev g r := ⟨1, fun k hk => by
  obtain ⟨m, rfl⟩ : ∃ m, k = m + 1 := ⟨k - 1, by omega⟩
  exact h m⟩
theorem Ev.late {α : Type} {g : Nat → Option α} {r : α} (K : Nat) (h : ∀ k, g (k + K) = some r) : Ev g r := ⟨K, fun k hk => by
  obtain ⟨m, rfl⟩ : ∃ m, k = m + K := ⟨k - K, by omega⟩
  exact h m⟩
theorem len_app {α : Type} (p s : List α) (e : α) : ((p.length : Nat) : Int) < ((p ++ e :: s).length : Int) := by simp; omega
theorem app_snoc {α : Type} (p s : List α) (e : α) : p ++ e :: s = (p ++ [e]) ++ s := by simp
theorem len_snoc {α : Type} (p : List α) (e : α) : ((p ++ [e]).length : Int) = (p.length : Int) + 1 := by simp
theorem wrn (n : Nat) (h : n < 1000000) : wrap64 ((n : Int) + 1) = (n : Int) + 1 := wr ⟨by omega, by omega⟩
theorem rd56_app (p s : List S56) (e : S56) : rd_T56 (p ++ e :: s) (p.length : Int) = e := by
  simp [rd_T56, List.getD_eq_getElem?_getD]
theorem rd_app (p s : List Int) (e : Int) : rd (p ++ e :: s) (p.length : Int) = e := by
  simp [rd, List.getD_eq_getElem?_getD]

def fst {α : Type} (P : α → Bool) : Int → List α → Int
  | _, [] => -1
  | i, x :: s => if P x = true then i else fst P (i + 1) s
theorem fst_any {α : Type} (P : α → Bool) : ∀ (s : List α) (i : Int), 0 ≤ i → decide (fst P i s ≥ 0) = s.any P
  | [], _, _ => rfl
  | x :: s, i, h => by
    rw [fst, List.any_cons]
    by_cases c : P x = true
    · rw [if_pos c, c, decide_eq_true h]; rfl
    · rw [if_neg c, fst_any P s (i + 1) (by omega), Bool.eq_false_iff.2 c]; rfl
theorem ix_ev {α : Type} (L : Nat → List α → Int → Int → Option Int) (g : Nat → α → Option Bool) (rdx : List α → Int → α) (hr : ∀ p s e, rdx (p ++ e :: s) ((p.length : Nat) : Int) = e)
    (hL : ∀ k xs n i, L (k + 1) xs n i = if i < n then (if 0 ≤ i then (if i < (xs.length : Int) then ((g k (rdx xs i)).bind fun t => (if t = true then (some i) else (L k xs n (wrap64 (i + 1))))) else none) else none) else (some (-1))) (P : α → Bool) :
    ∀ (s p : List α), (∀ x ∈ s, Ev (fun k => g k x) (P x)) → (p ++ s).length < 1000000 → Ev (fun k => L k (p ++ s) ((p ++ s).length : Int) (p.length : Int)) (fst P p.length s)
  | [], p, _, hl => by
    refine Ev.const1 (fun k => ?_)
    rw [hL, if_neg (by simp)]
    rfl
  | x :: s, p, hP, hl => by
    refine Ev.step (f := fun k => (g k x).bind fun t => (if t = true then (some (p.length : Int)) else (L k (p ++ x :: s) ((p ++ x :: s).length : Int) ((p.length : Int) + 1)))) (fun k => ?_) ?_
    · rw [hL, if_pos (len_app p s x), if_pos (by omega), if_pos (len_app p s x), hr, wrn _ (by simp at hl; omega)]
    · refine Ev.bind (f := fun k t => if t = true then (some (p.length : Int)) else (L k (p ++ x :: s) ((p ++ x :: s).length : Int) ((p.length : Int) + 1))) (hP x (List.mem_cons_self)) ?_
      rw [fst]
      by_cases c : P x = true
      · simp only [if_pos c]
        exact Ev.now _
      · simp only [if_neg c]
        have := ix_ev L g rdx hr hL P s (p ++ [x]) (fun y hy => hP y (List.mem_cons_of_mem _ hy)) (by rw [← app_snoc]; exact hl)
        rw [← app_snoc, len_snoc] at this
        exact this
theorem ix_any {α : Type} (L : Nat → List α → Int → Int → Option Int) (g : Nat → α → Option Bool) (rdx : List α → Int → α) (hr : ∀ p s e, rdx (p ++ e :: s) ((p.length : Nat) : Int) = e)
    (hL : ∀ k xs n i, L (k + 1) xs n i = if i < n then (if 0 ≤ i then (if i < (xs.length : Int) then ((g k (rdx xs i)).bind fun t => (if t = true then (some i) else (L k xs n (wrap64 (i + 1))))) else none) else none) else (some (-1))) (P : α → Bool)
    (s : List α) (hP : ∀ x ∈ s, Ev (fun k => g k x) (P x)) (hl : s.length < 1000000) : Ev (fun k => (L k s (s.length : Int) 0).bind fun t => some (decide (t ≥ 0))) (s.any P) := by
  have h := ix_ev L g rdx hr hL P s [] hP hl
  refine Ev.bind (f := fun _ t => some (decide (t ≥ 0))) h ?_
  rw [← fst_any P s 0 (by omega)]
  exact Ev.now _

def pos3 (s : S23) : Bool := decide (1 ≤ s.f0 ∧ s.f0 ≤ 24) && decide (1 ≤ s.f1 ∧ s.f1 ≤ 24) && decide (1 ≤ s.f2 ∧ s.f2 ≤ 24)
def itOk (x : S56) : Bool := pos3 x.f1 && decide (0 ≤ x.f2 ∧ x.f2 ≤ 1000000000)
def nameless (x : S56) : Bool := x.f0.toList == ([] : List UInt8)
def sameName (x y : S56) : Bool := x.f0.toList == y.f0.toList
def dup : List S56 → List S56 → Bool
  | _, [] => false
  | p, x :: s => p.any (fun y => sameName y x) || dup (p ++ [x]) s
def chk (n : S23) (kf : Int) (its : List S56) : Int :=
  if its.length > 6 then 7 else if its.any nameless = true then 4 else if (pos3 n && decide (0 ≤ kf ∧ kf ≤ 24) && its.all itOk) = true then (if dup [] its = true then 5 else 0) else 6
theorem possible_ev (a b c : Int) : Ev (fun k => boxpack_possible.f k a b c) (pos3 ⟨a, b, c⟩) := by
  refine Ev.late 4 (fun k => ?_)
  simp only [boxpack_possible.f, boxpack_sides.f, Option.bind_some, boxpack_possible.l0, pos3]
  grind
theorem check2_ev (x : S56) : Ev (fun k => boxpack_Check_2.f k x.f0 x.f1.f0 x.f1.f1 x.f1.f2 x.f2 x.f3 x.f4) (!itOk x) := by
  unfold boxpack_Check_2.f
  refine Ev.bind (f := fun k t109 => if t109 = true then (if x.f2 < 0 then (some true) else (some (decide (x.f2 > 1000000000)))) else (some true)) (possible_ev _ _ _) ?_
  refine Ev.const (fun k => ?_)
  unfold itOk
  rw [show (⟨x.f1.f0, x.f1.f1, x.f1.f2⟩ : S23) = x.f1 from rfl]
  cases pos3 x.f1
  · rfl
  · by_cases h : x.f2 < 0
    · rw [if_pos rfl, if_pos h, decide_eq_false (show ¬ (0 ≤ x.f2 ∧ x.f2 ≤ 1000000000) by omega)]; rfl
    · rw [if_pos rfl, if_neg h]
      by_cases h1 : x.f2 > 1000000000
      · rw [decide_eq_true h1, decide_eq_false (show ¬ (0 ≤ x.f2 ∧ x.f2 ≤ 1000000000) by omega)]; rfl
      · rw [decide_eq_false h1, decide_eq_true (show (0 ≤ x.f2 ∧ x.f2 ≤ 1000000000) by omega)]; rfl
theorem any_not_all {α : Type} (P : α → Bool) : ∀ s : List α, s.any (fun x => !P x) = !s.all P
  | [] => rfl
  | x :: s => by rw [List.any_cons, List.all_cons, any_not_all P s]; cases P x <;> rfl
theorem c1_ev (s : List S56) (hl : s.length < 1000000) : Ev (fun k => api_Item_34_by_boxpack_Check_1.f k s) (s.any nameless) :=
  ix_any (fun k xs n i => api_Item_30_by_boxpack_Check_1.l0 k xs n i) (fun _ x => boxpack_Check_1.f x.f0 x.f1.f0 x.f1.f1 x.f1.f2 x.f2 x.f3 x.f4) rd_T56 rd56_app (fun _ _ _ _ => rfl) nameless s (fun x _ => Ev.const fun _ => rfl) hl
theorem c2_ev (s : List S56) (hl : s.length < 1000000) : Ev (fun k => api_Item_34_by_boxpack_Check_2.f k s) (!s.all itOk) := by
  rw [← any_not_all]
  exact ix_any (fun k xs n i => api_Item_30_by_boxpack_Check_2.l0 k xs n i) (fun k x => boxpack_Check_2.f k x.f0 x.f1.f0 x.f1.f1 x.f1.f2 x.f2 x.f3 x.f4) rd_T56 rd56_app (fun _ _ _ _ => rfl) (fun x => !itOk x) s (fun x _ => check2_ev x) hl
theorem c3_ev (s : List S56) (x : S56) (hl : s.length < 1000000) : Ev (fun k => api_Item_34_by_boxpack_Check_3.f k s x.f0 x.f1.f0 x.f1.f1 x.f1.f2 x.f2 x.f3 x.f4) (s.any (fun y => sameName y x)) :=
  ix_any (fun k xs n i => api_Item_30_by_boxpack_Check_3.l0 k xs n i x.f0 x.f1.f0 x.f1.f1 x.f1.f2 x.f2 x.f3 x.f4) (fun _ y => boxpack_Check_3.f y.f0 y.f1.f0 y.f1.f1 y.f1.f2 y.f2 y.f3 y.f4 x.f0 x.f1.f0 x.f1.f1 x.f1.f2 x.f2 x.f3 x.f4) rd_T56 rd56_app (fun _ _ _ _ => rfl) (fun y => sameName y x) s (fun y _ => Ev.const fun _ => rfl) hl
theorem cl_ev (a b c d : Int) (its : List S56) (hi : its.length < 1000000) : ∀ (s p : List S56), p ++ s = its → Ev (fun k => boxpack_Check.l0 k its (its.length : Int) (p.length : Int) a b c d its) (if dup p s = true then 5 else 0)
  | [], p, hp => by
    refine Ev.const1 (fun k => ?_)
    rw [boxpack_Check.l0, if_neg (by rw [← hp]; simp)]
    rfl
  | x :: s, p, hp => by
    have hlt : (p.length : Int) < (its.length : Int) := by rw [← hp]; exact len_app p s x
    refine Ev.step (f := fun k => (api_Item_34_by_boxpack_Check_3.f k p x.f0 x.f1.f0 x.f1.f1 x.f1.f2 x.f2 x.f3 x.f4).bind fun t => (if t = true then (some 5) else (boxpack_Check.l0 k its (its.length : Int) ((p ++ [x]).length : Int) a b c d its))) (fun k => ?_) ?_
    · rw [boxpack_Check.l0, if_pos hlt, if_pos (by omega), if_pos hlt, if_pos (by omega), show (its.take ((p.length : Int)).toNat) = p by rw [← hp]; simp, show rd_T56 its (p.length : Int) = x by rw [← hp]; exact rd56_app p s x, wrn _ (by omega), len_snoc]
    · refine Ev.bind (f := fun k t => (if t = true then (some 5) else (boxpack_Check.l0 k its (its.length : Int) ((p ++ [x]).length : Int) a b c d its))) (c3_ev p x (by have := congrArg List.length hp; simp at this; omega)) ?_
      rw [dup]
      cases hd : p.any (fun y => sameName y x)
      · simp only [Bool.false_eq_true, if_false, Bool.false_or]
        exact cl_ev a b c d its hi s (p ++ [x]) (by rw [← hp]; simp)
      · simp only [if_true, Bool.true_or]
        exact Ev.now _
theorem cj_ev (a b c d : Int) (its : List S56) (hi : its.length < 1000000) (t : Bool) : Ev (fun k => boxpack_Check.j0 k t a b c d its) (if t = true then 6 else if dup [] its = true then 5 else 0) := by
  refine Ev.step (f := fun k => if t = true then some 6 else boxpack_Check.l0 k its (its.length : Int) 0 a b c d its) (fun k => rfl) ?_
  cases t
  · simp only [Bool.false_eq_true, if_false]
    exact cl_ev a b c d its hi its [] rfl
  · exact Ev.now _
theorem check_ev (n : S23) (kf : Int) (its : List S56) : Ev (fun k => boxpack_Check.f k n.f0 n.f1 n.f2 kf its) (chk n kf its) := by
  unfold boxpack_Check.f chk
  by_cases h6 : (its.length : Int) > 6
  · simp only [if_pos h6, if_pos (show its.length > 6 by omega)]
    exact Ev.now _
  · simp only [if_neg h6, if_neg (show ¬ its.length > 6 by omega)]
    refine Ev.bind (f := fun k t115 => if t115 = true then (some 4) else ((boxpack_possible.f k n.f0 n.f1 n.f2).bind fun t116 => (if t116 = true then (if kf < 0 then (boxpack_Check.j0 k true n.f0 n.f1 n.f2 kf its) else (if kf > 24 then (boxpack_Check.j0 k true n.f0 n.f1 n.f2 kf its) else ((api_Item_34_by_boxpack_Check_2.f k its).bind fun t117 => (boxpack_Check.j0 k t117 n.f0 n.f1 n.f2 kf its)))) else (boxpack_Check.j0 k true n.f0 n.f1 n.f2 kf its)))) (c1_ev its (by omega)) ?_
    cases its.any nameless
    case true => exact Ev.now _
    simp only [Bool.false_eq_true, if_false]
    refine Ev.bind (f := fun k t116 => if t116 = true then (if kf < 0 then (boxpack_Check.j0 k true n.f0 n.f1 n.f2 kf its) else (if kf > 24 then (boxpack_Check.j0 k true n.f0 n.f1 n.f2 kf its) else ((api_Item_34_by_boxpack_Check_2.f k its).bind fun t117 => (boxpack_Check.j0 k t117 n.f0 n.f1 n.f2 kf its)))) else (boxpack_Check.j0 k true n.f0 n.f1 n.f2 kf its)) (possible_ev n.f0 n.f1 n.f2) ?_
    rw [show (⟨n.f0, n.f1, n.f2⟩ : S23) = n from rfl]
    cases pos3 n
    case false =>
      simp only [Bool.false_eq_true, if_false, Bool.false_and]
      exact cj_ev _ _ _ _ its (by omega) true
    simp only [if_true, Bool.true_and]
    by_cases k0 : kf < 0
    · simp only [if_pos k0, decide_eq_false (show ¬ (0 ≤ kf ∧ kf ≤ 24) by omega), Bool.false_and, Bool.false_eq_true, if_false]
      exact cj_ev _ _ _ _ its (by omega) true
    by_cases k1 : kf > 24
    · simp only [if_neg k0, if_pos k1, decide_eq_false (show ¬ (0 ≤ kf ∧ kf ≤ 24) by omega), Bool.false_and, Bool.false_eq_true, if_false]
      exact cj_ev _ _ _ _ its (by omega) true
    simp only [if_neg k0, if_neg k1, decide_eq_true (show (0 ≤ kf ∧ kf ≤ 24) by omega), Bool.true_and]
    refine Ev.bind (f := fun k t117 => boxpack_Check.j0 k t117 n.f0 n.f1 n.f2 kf its) (c2_ev its (by omega)) ?_
    refine Ev.eq (cj_ev _ _ _ _ its (by omega) _) ?_
    cases its.all itOk <;> rfl

theorem side_eq (s : S23) (ax : Int) (h : 0 ≤ ax ∧ ax ≤ 2) : rf_side.f s.f0 s.f1 s.f2 ax = some (getAx s ax) := by
  have : ax = 0 ∨ ax = 1 ∨ ax = 2 := by omega
  rcases this with rfl | rfl | rfl <;> rfl
theorem sized_ev (s : S23) : Ev (fun k => rf_sized.f k s.f0 s.f1 s.f2) (pos3 s) := by
  refine Ev.late 4 (fun k => ?_)
  simp only [rf_sized.f, rf_sized.l0]
  rw [show wrap64 (0 + 1) = 1 from wr ⟨by decide, by decide⟩, show wrap64 (1 + 1) = 2 from wr ⟨by decide, by decide⟩, show wrap64 (2 + 1) = 3 from wr ⟨by decide, by decide⟩]
  simp only [side_eq s 0 (by decide), side_eq s 1 (by decide), side_eq s 2 (by decide), Option.bind_some, pos3]
  rw [show getAx s 0 = s.f0 from rfl, show getAx s 1 = s.f1 from rfl, show getAx s 2 = s.f2 from rfl]
  grind
theorem r3_ev (a b c d : Int) (its : List S56) (hi : its.length < 1000000) (x : S56) (s : List S56) (p : List S56) (hp : p ++ x :: s = its) (R : Int) (hn : Ev (fun k => rf_Check.l2 k ((p.length : Int) + 1) a b c d its) R) : ∀ (q2 q1 : List S56), q1 ++ q2 = p → Ev (fun k => rf_Check.l3 k (p.length : Int) (q1.length : Int) a b c d its) (if q2.any (fun y => sameName y x) = true then 5 else R)
  | [], q1, hq => by
    refine Ev.step (f := fun k => rf_Check.l2 k ((p.length : Int) + 1) a b c d its) (fun k => ?_) hn
    rw [rf_Check.l3, if_neg (by rw [← hq]; simp), wrn _ (by have := congrArg List.length hp; simp at this; omega)]
  | y :: q2, q1, hq => by
    have h1 : (q1.length : Int) < (p.length : Int) := by rw [← hq]; exact len_app q1 q2 y
    have h2 : (p.length : Int) < (its.length : Int) := by rw [← hp]; exact len_app p s x
    have hx : rd_T56 its (p.length : Int) = x := by rw [← hp]; exact rd56_app p s x
    have hy : rd_T56 its (q1.length : Int) = y := by rw [← hp, ← hq, List.append_assoc, List.cons_append]; exact rd56_app q1 (q2 ++ x :: s) y
    refine Ev.step (f := fun k => if x.f0.toList = y.f0.toList then some 5 else rf_Check.l3 k (p.length : Int) ((q1 ++ [y]).length : Int) a b c d its) (fun k => ?_) ?_
    · rw [rf_Check.l3, if_pos h1, if_pos (by omega), if_pos h2, if_pos (by omega), if_pos (by omega), hx, hy, wrn _ (by omega), len_snoc]
    · rw [List.any_cons]
      by_cases he : x.f0.toList = y.f0.toList
      · simp only [if_pos he, sameName, he, beq_self_eq_true, Bool.true_or, if_true]
        exact Ev.now _
      · have he' : (y.f0.toList == x.f0.toList) = false := beq_eq_false_iff_ne.2 (fun h => he h.symm)
        simp only [if_neg he, sameName, he', Bool.false_or]
        exact r3_ev a b c d its hi x s p hp R hn q2 (q1 ++ [y]) (by rw [← hq]; simp)
theorem r2_ev (a b c d : Int) (its : List S56) (hi : its.length < 1000000) : ∀ (s p : List S56), p ++ s = its → Ev (fun k => rf_Check.l2 k (p.length : Int) a b c d its) (if dup p s = true then 5 else 0)
  | [], p, hp => by
    refine Ev.const1 (fun k => ?_)
    rw [rf_Check.l2, if_neg (by rw [← hp]; simp)]
    rfl
  | x :: s, p, hp => by
    have h2 : (p.length : Int) < (its.length : Int) := by rw [← hp]; exact len_app p s x
    refine Ev.step (f := fun k => rf_Check.l3 k (p.length : Int) 0 a b c d its) (fun k => ?_) ?_
    · rw [rf_Check.l2, if_pos h2]
    · have ih := r2_ev a b c d its hi s (p ++ [x]) (by rw [← hp]; simp)
      rw [len_snoc] at ih
      refine Ev.eq (r3_ev a b c d its hi x s p hp _ ih p [] rfl) ?_
      rw [dup]
      cases p.any (fun y => sameName y x) <;> rfl
theorem r1_ev (n : S23) (d : Int) (its : List S56) (hi : its.length < 1000000) : ∀ (s p : List S56) (ok : Bool), p ++ s = its → Ev (fun k => rf_Check.l1 k ok (p.length : Int) n.f0 n.f1 n.f2 d its) (if (ok && s.all itOk) = true then (if dup [] its = true then 5 else 0) else 6)
  | [], p, ok, hp => by
    refine Ev.step (f := fun k => if ok = true then rf_Check.l2 k 0 n.f0 n.f1 n.f2 d its else some 6) (fun k => ?_) ?_
    · rw [rf_Check.l1, if_neg (by rw [← hp]; simp)]
    · cases ok
      · exact Ev.now _
      · exact r2_ev _ _ _ _ its hi its [] rfl
  | x :: s, p, ok, hp => by
    have h2 : (p.length : Int) < (its.length : Int) := by rw [← hp]; exact len_app p s x
    have hx : rd_T56 its (p.length : Int) = x := by rw [← hp]; exact rd56_app p s x
    have ih := fun ok => r1_ev n d its hi s (p ++ [x]) ok (by rw [← hp]; simp)
    simp only [len_snoc] at ih
    refine Ev.step (f := fun k => if ok = true then ((rf_sized.f k x.f1.f0 x.f1.f1 x.f1.f2).bind fun t257 => (if t257 = true then (if x.f2 ≥ 0 then (rf_Check.l1 k (decide (x.f2 ≤ 1000000000)) ((p.length : Int) + 1) n.f0 n.f1 n.f2 d its) else (rf_Check.l1 k false ((p.length : Int) + 1) n.f0 n.f1 n.f2 d its)) else (rf_Check.l1 k false ((p.length : Int) + 1) n.f0 n.f1 n.f2 d its))) else rf_Check.l1 k false ((p.length : Int) + 1) n.f0 n.f1 n.f2 d its) (fun k => ?_) ?_
    · rw [rf_Check.l1, if_pos h2, if_pos (show 0 ≤ (p.length : Int) by omega), hx, wrn _ (by omega)]
    · cases ok
      · simp only [Bool.false_eq_true, if_false, Bool.false_and]
        refine Ev.eq (ih false) ?_
        simp
      · simp only [if_true, Bool.true_and]
        refine Ev.bind (f := fun k t257 => if t257 = true then (if x.f2 ≥ 0 then (rf_Check.l1 k (decide (x.f2 ≤ 1000000000)) ((p.length : Int) + 1) n.f0 n.f1 n.f2 d its) else (rf_Check.l1 k false ((p.length : Int) + 1) n.f0 n.f1 n.f2 d its)) else (rf_Check.l1 k false ((p.length : Int) + 1) n.f0 n.f1 n.f2 d its)) (sized_ev x.f1) ?_
        rw [List.all_cons]
        unfold itOk
        cases pos3 x.f1
        · simp only [Bool.false_eq_true, if_false, Bool.false_and]
          refine Ev.eq (ih false) ?_
          simp
        · by_cases h0 : x.f2 ≥ 0
          · simp only [if_true, if_pos h0, Bool.true_and]
            refine Ev.eq (ih _) ?_
            rw [show decide (0 ≤ x.f2 ∧ x.f2 ≤ 1000000000) = decide (x.f2 ≤ 1000000000) from decide_eq_decide.2 ⟨fun h => h.2, fun h => ⟨h0, h⟩⟩]
            rfl
          · simp only [if_true, if_neg h0, Bool.true_and]
            refine Ev.eq (ih false) ?_
            rw [decide_eq_false (show ¬ (0 ≤ x.f2 ∧ x.f2 ≤ 1000000000) from fun h => h0 h.1)]
            simp
theorem r0_ev (n : S23) (d : Int) (its : List S56) (hi : its.length < 1000000) : ∀ (s p : List S56), p ++ s = its → Ev (fun k => rf_Check.l0 k (p.length : Int) n.f0 n.f1 n.f2 d its) (if s.any nameless = true then 4 else if (pos3 n && decide (0 ≤ d ∧ d ≤ 24) && its.all itOk) = true then (if dup [] its = true then 5 else 0) else 6)
  | [], p, hp => by
    refine Ev.step (f := fun k => (rf_sized.f k n.f0 n.f1 n.f2).bind fun t255 => (if t255 = true then (if d ≥ 0 then (rf_Check.j1 k (decide (d ≤ 24)) n.f0 n.f1 n.f2 d its) else (rf_Check.j1 k false n.f0 n.f1 n.f2 d its)) else (rf_Check.j1 k false n.f0 n.f1 n.f2 d its))) (fun k => ?_) ?_
    · rw [rf_Check.l0, if_neg (by rw [← hp]; simp)]
    · refine Ev.bind (f := fun k t255 => if t255 = true then (if d ≥ 0 then (rf_Check.j1 k (decide (d ≤ 24)) n.f0 n.f1 n.f2 d its) else (rf_Check.j1 k false n.f0 n.f1 n.f2 d its)) else (rf_Check.j1 k false n.f0 n.f1 n.f2 d its)) (sized_ev n) ?_
      have hj : ∀ ok, Ev (fun k => rf_Check.j1 k ok n.f0 n.f1 n.f2 d its) (if (ok && its.all itOk) = true then (if dup [] its = true then 5 else 0) else 6) := fun ok => Ev.step (f := fun k => rf_Check.l1 k ok 0 n.f0 n.f1 n.f2 d its) (fun k => rfl) (r1_ev n d its hi its [] ok rfl)
      cases pos3 n
      · simp only [Bool.false_eq_true, if_false, Bool.false_and]
        refine Ev.eq (hj false) ?_
        simp
      · by_cases h0 : d ≥ 0
        · simp only [if_true, if_pos h0, Bool.true_and]
          refine Ev.eq (hj _) ?_
          rw [show decide (0 ≤ d ∧ d ≤ 24) = decide (d ≤ 24) from decide_eq_decide.2 ⟨fun h => h.2, fun h => ⟨h0, h⟩⟩]
          rfl
        · simp only [if_true, if_neg h0, Bool.true_and]
          refine Ev.eq (hj false) ?_
          rw [decide_eq_false (show ¬ (0 ≤ d ∧ d ≤ 24) from fun h => h0 h.1)]
          simp
  | x :: s, p, hp => by
    have h2 : (p.length : Int) < (its.length : Int) := by rw [← hp]; exact len_app p s x
    have hx : rd_T56 its (p.length : Int) = x := by rw [← hp]; exact rd56_app p s x
    refine Ev.step (f := fun k => if x.f0.toList = ([] : List UInt8) then some 4 else rf_Check.l0 k ((p ++ [x]).length : Int) n.f0 n.f1 n.f2 d its) (fun k => ?_) ?_
    · rw [rf_Check.l0, if_pos h2, if_pos (by omega), hx, wrn _ (by omega), len_snoc]
    · rw [List.any_cons]
      by_cases he : x.f0.toList = []
      · simp only [if_pos he, nameless, he, beq_self_eq_true, Bool.true_or, if_true]
        exact Ev.now _
      · have he' : nameless x = false := beq_eq_false_iff_ne.2 he
        simp only [if_neg he, he', Bool.false_or]
        exact r0_ev n d its hi s (p ++ [x]) (by rw [← hp]; simp)
theorem rcheck_ev (n : S23) (kf : Int) (its : List S56) : Ev (fun k => rf_Check.f k n.f0 n.f1 n.f2 kf its) (chk n kf its) := by
  unfold rf_Check.f chk
  by_cases h6 : (its.length : Int) > 6
  · simp only [if_pos h6, if_pos (show its.length > 6 by omega)]
    exact Ev.now _
  · simp only [if_neg h6, if_neg (show ¬ its.length > 6 by omega)]
    exact r0_ev n kf its (by omega) its [] rfl
def small (n : S23) (kf : Int) (its : List S56) (m : Int) : Bool := decide (its.length ≤ 8) && (decide (chk n kf its ≠ 0) || decide (n.f0 ≤ m ∧ n.f1 ≤ m ∧ n.f2 ≤ m))
theorem small_ev (n : S23) (kf : Int) (its : List S56) (m : Int) : Ev (fun k => rf_Small.f k n.f0 n.f1 n.f2 kf its m) (small n kf its m) := by
  unfold rf_Small.f small
  by_cases h8 : (its.length : Int) > 8
  · simp only [if_pos h8, decide_eq_false (show ¬ its.length ≤ 8 by omega), Bool.false_and]
    exact Ev.now _
  · simp only [if_neg h8, decide_eq_true (show its.length ≤ 8 by omega), Bool.true_and]
    refine Ev.bind (f := fun k t263 => if t263 = 0 then (if n.f0 ≤ m then (if n.f1 ≤ m then (some (decide (n.f2 ≤ m))) else (some false)) else (some false)) else (some true)) (rcheck_ev n kf its) ?_
    refine Ev.const (fun k => ?_)
    by_cases hc : chk n kf its = 0
    · simp only [if_pos hc, hc, ne_eq, not_true_eq_false, decide_false, Bool.false_or]
      by_cases a : n.f0 ≤ m <;> by_cases b : n.f1 ≤ m <;> simp [a, b]
    · simp [hc]

def inB (n s : S23) : Prop := (1 ≤ s.f0 ∧ s.f0 ≤ n.f0) ∧ (1 ≤ s.f1 ∧ s.f1 ≤ n.f1) ∧ (1 ≤ s.f2 ∧ s.f2 ≤ n.f2)
def okN (n : S23) : Prop := (1 ≤ n.f0 ∧ n.f0 ≤ 24) ∧ (1 ≤ n.f1 ∧ n.f1 ≤ 24) ∧ (1 ≤ n.f2 ∧ n.f2 ≤ 24)
def ix (n s : S23) : Int := ((s.f2 - 1) * n.f1 + (s.f1 - 1)) * n.f0 + (s.f0 - 1)
def cnt (n : S23) : Int := n.f0 * n.f1 * n.f2
def sz (n : S23) (i : Int) : S23 := ⟨i % n.f0 + 1, i / n.f0 % n.f1 + 1, i / n.f0 / n.f1 + 1⟩
theorem pos3_ok {n : S23} (h : pos3 n = true) : okN n := by
  unfold pos3 at h
  simp only [Bool.and_eq_true, decide_eq_true_eq] at h
  exact ⟨h.1.1, h.1.2, h.2⟩
theorem mix {a b m M : Int} (ha : 0 ≤ a) (hM : a ≤ M - 1) (hb : 0 ≤ b) (hm : b ≤ m - 1) : 0 ≤ a * m + b ∧ a * m + b ≤ M * m - 1 := by
  have h1 := Int.mul_nonneg ha (show 0 ≤ m by omega)
  have h2 := Int.mul_le_mul_of_nonneg_right hM (show 0 ≤ m by omega)
  rw [Int.sub_mul] at h2
  omega
theorem mul_le {a b A B : Int} (ha : 0 ≤ a) (hA : a ≤ A) (hb : 0 ≤ b) (hB : b ≤ B) : 0 ≤ a * b ∧ a * b ≤ A * B :=
  ⟨Int.mul_nonneg ha hb, Int.mul_le_mul hA hB hb (Int.le_trans ha hA)⟩
theorem cnt_le {n : S23} (hn : okN n) : 1 ≤ cnt n ∧ cnt n ≤ 13824 := by
  obtain ⟨h0, h1, h2⟩ := hn
  unfold cnt
  have a := mul_le (a := n.f0) (b := n.f1) (A := 24) (B := 24) (by omega) h0.2 (by omega) h1.2
  have b := mul_le (a := n.f0 * n.f1) (b := n.f2) (A := 24 * 24) (B := 24) a.1 a.2 (by omega) h2.2
  have c := Int.mul_le_mul h0.1 h1.1 (by decide) (show 0 ≤ n.f0 by omega)
  have d := Int.mul_le_mul c h2.1 (by decide) a.1
  omega
theorem ix_row {n s : S23} (hs : inB n s) : 0 ≤ (s.f2 - 1) * n.f1 + (s.f1 - 1) ∧ (s.f2 - 1) * n.f1 + (s.f1 - 1) ≤ n.f2 * n.f1 - 1 := mix (by have := hs; unfold inB at this; omega) (by have := hs; unfold inB at this; omega) (by have := hs; unfold inB at this; omega) (by have := hs; unfold inB at this; omega)
theorem ix_lt {n s : S23} (hs : inB n s) : 0 ≤ ix n s ∧ ix n s < cnt n := by
  have hr := ix_row hs
  have := mix (a := (s.f2 - 1) * n.f1 + (s.f1 - 1)) (b := s.f0 - 1) (m := n.f0) (M := n.f2 * n.f1) hr.1 (by omega) (by have := hs.1; omega) (by have := hs.1; omega)
  rw [show n.f2 * n.f1 * n.f0 = cnt n by unfold cnt; rw [Int.mul_comm n.f2 n.f1, Int.mul_comm (n.f1 * n.f2) n.f0, ← Int.mul_assoc]] at this
  unfold ix
  omega
theorem ixS_eq {n s : S23} (hn : okN n) (hs : inB n s) : ixS n.f0 n.f1 s = ix n s := by
  have hr := ix_row hs
  have hl := ix_lt hs
  have hc := cnt_le hn
  have hn' := hn
  unfold okN at hn'
  have h21 : 0 ≤ (s.f2 - 1) * n.f1 := Int.mul_nonneg (by have := hs.2.2; omega) (by omega)
  have hm := mul_le (a := n.f2) (b := n.f1) (A := 24) (B := 24) (by omega) (by omega) (by omega) (by omega)
  have hs' := hs
  unfold inB at hs'
  have hq : 0 ≤ ((s.f2 - 1) * n.f1 + (s.f1 - 1)) * n.f0 := Int.mul_nonneg hr.1 (by omega)
  unfold ix at hl ⊢
  unfold ixS
  rw [wr (x := s.f2 - 1) (by omega), wr (x := (s.f2 - 1) * n.f1) (by omega), wr (x := (s.f2 - 1) * n.f1 + s.f1) (by omega), wr (x := (s.f2 - 1) * n.f1 + s.f1 - 1) (by omega),
    show (s.f2 - 1) * n.f1 + s.f1 - 1 = (s.f2 - 1) * n.f1 + (s.f1 - 1) by omega, wr (x := ((s.f2 - 1) * n.f1 + (s.f1 - 1)) * n.f0) (by omega),
    wr (x := ((s.f2 - 1) * n.f1 + (s.f1 - 1)) * n.f0 + s.f0) (by omega), wr (by omega)]
  omega
theorem sz_inB {n : S23} (hn : okN n) {i : Int} (h0 : 0 ≤ i) (h1 : i < cnt n) : inB n (sz n i) := by
  have hn' := hn
  unfold okN at hn'
  have a := Int.emod_nonneg i (show n.f0 ≠ 0 by omega)
  have b := Int.emod_lt_of_pos i (show 0 < n.f0 by omega)
  have c := Int.emod_nonneg (i / n.f0) (show n.f1 ≠ 0 by omega)
  have d := Int.emod_lt_of_pos (i / n.f0) (show 0 < n.f1 by omega)
  have e : 0 ≤ i / n.f0 := Int.ediv_nonneg h0 (by omega)
  have f : 0 ≤ i / n.f0 / n.f1 := Int.ediv_nonneg e (by omega)
  have g : i / n.f0 / n.f1 < n.f2 := by
    rw [Int.ediv_lt_iff_lt_mul (by omega), Int.ediv_lt_iff_lt_mul (by omega)]
    have : n.f2 * n.f1 * n.f0 = cnt n := by unfold cnt; rw [Int.mul_comm n.f2 n.f1, Int.mul_comm (n.f1 * n.f2) n.f0, ← Int.mul_assoc]
    omega
  unfold inB sz
  refine ⟨⟨?_, ?_⟩, ⟨?_, ?_⟩, ?_, ?_⟩ <;> dsimp only <;> omega
theorem size_eq {n : S23} (hn : okN n) (kf : Int) (its : List S56) {i : Int} (h0 : 0 ≤ i) (h1 : i < cnt n) : boxpack_Problem_size.f n.f0 n.f1 n.f2 kf its i = some ((sz n i).f0, (sz n i).f1, (sz n i).f2) := by
  have hb := sz_inB hn h0 h1
  have hn' := hn
  unfold okN at hn'
  unfold inB at hb
  have e : 0 ≤ i / n.f0 := Int.ediv_nonneg h0 (by omega)
  have e2 : i / n.f0 ≤ i := Int.ediv_le_self _ h0
  have hc := cnt_le hn
  unfold boxpack_Problem_size.f
  rw [if_neg (by omega), if_neg (by omega), Int.tmod_eq_emod_of_nonneg h0, Int.tdiv_eq_ediv_of_nonneg h0, wr (x := i / n.f0) (by omega), Int.tmod_eq_emod_of_nonneg e, Int.tdiv_eq_ediv_of_nonneg e]
  unfold sz at hb ⊢
  dsimp only at hb ⊢
  rw [wr (x := i / n.f0 / n.f1) (by omega), wr (by omega), wr (by omega), wr (by omega)]
theorem rsize_eq {n : S23} (hn : okN n) (kf : Int) (its : List S56) {i : Int} (h0 : 0 ≤ i) (h1 : i < cnt n) : rf_size.f n.f0 n.f1 n.f2 kf its i = some ((sz n i).f0, (sz n i).f1, (sz n i).f2) := by
  have hb := sz_inB hn h0 h1
  have hn' := hn
  unfold okN at hn'
  unfold inB at hb
  have e : 0 ≤ i / n.f0 := Int.ediv_nonneg h0 (by omega)
  have e2 : i / n.f0 ≤ i := Int.ediv_le_self _ h0
  have hc := cnt_le hn
  have m := mul_le (a := n.f0) (b := n.f1) (A := 24) (B := 24) (by omega) (by omega) (by omega) (by omega)
  have m1 := Int.mul_le_mul hn'.1.1 hn'.2.1.1 (by decide) (show 0 ≤ n.f0 by omega)
  unfold rf_size.f
  rw [wr (x := n.f0 * n.f1) (by omega), if_neg (by omega), if_neg (by omega), if_neg (by omega), Int.tmod_eq_emod_of_nonneg h0, Int.tdiv_eq_ediv_of_nonneg h0, Int.tdiv_eq_ediv_of_nonneg h0, wr (x := i / n.f0) (by omega), Int.tmod_eq_emod_of_nonneg e, ← Int.ediv_ediv_of_nonneg (by omega)]
  unfold sz at hb ⊢
  dsimp only at hb ⊢
  rw [wr (x := i / n.f0 / n.f1) (by omega), wr (by omega), wr (by omega), wr (by omega)]

theorem set_of (s : S23) (ax v : Int) (ha : 0 ≤ ax ∧ ax ≤ 2) : (setAx s ax v = ⟨v, s.f1, s.f2⟩ ∧ getAx s ax = s.f0) ∨ (setAx s ax v = ⟨s.f0, v, s.f2⟩ ∧ getAx s ax = s.f1) ∨ (setAx s ax v = ⟨s.f0, s.f1, v⟩ ∧ getAx s ax = s.f2) := by
  have h1 : ax = 0 ∨ ax = 1 ∨ ax = 2 := by omega
  rcases h1 with rfl | rfl | rfl
  · exact Or.inl ⟨rfl, rfl⟩
  · exact Or.inr (Or.inl ⟨rfl, rfl⟩)
  · exact Or.inr (Or.inr ⟨rfl, rfl⟩)
def ctA (kf : Int) (s : S23) (ax pos : Int) : Ct := ⟨ax, pos, setAx s ax pos, setAx s ax (getAx s ax - pos - kf)⟩
theorem mem_cutsA {kf : Int} {s : S23} {ax : Int} {c : Ct} : c ∈ cutsA kf s ax ↔ ∃ pos, 1 ≤ pos ∧ pos + kf < getAx s ax ∧ c = ctA kf s ax pos := by
  unfold cutsA ctA
  simp only [List.mem_map, List.mem_range]
  constructor
  · rintro ⟨i, hi, rfl⟩
    exact ⟨(i : Int) + 1, by omega, by omega, rfl⟩
  · rintro ⟨pos, h1, h2, rfl⟩
    refine ⟨(pos - 1).toNat, by omega, ?_⟩
    rw [show (((pos - 1).toNat : Nat) : Int) + 1 = pos by omega]
theorem mem_cutsL {kf : Int} {s : S23} {c : Ct} : c ∈ cutsL kf s ↔ ∃ ax pos, (0 ≤ ax ∧ ax ≤ 2) ∧ 1 ≤ pos ∧ pos + kf < getAx s ax ∧ c = ctA kf s ax pos := by
  unfold cutsL
  simp only [List.mem_append, mem_cutsA]
  constructor
  · rintro (⟨p, h⟩ | ⟨p, h⟩ | ⟨p, h⟩)
    · exact ⟨0, p, by decide, h⟩
    · exact ⟨1, p, by decide, h⟩
    · exact ⟨2, p, by decide, h⟩
  · rintro ⟨ax, p, ha, h⟩
    have h1 : ax = 0 ∨ ax = 1 ∨ ax = 2 := by omega
    rcases h1 with rfl | rfl | rfl
    · exact Or.inl ⟨p, h⟩
    · exact Or.inr (Or.inl ⟨p, h⟩)
    · exact Or.inr (Or.inr ⟨p, h⟩)
theorem set_inB {n s : S23} (hs : inB n s) {ax v : Int} (ha : 0 ≤ ax ∧ ax ≤ 2) (h1 : 1 ≤ v) (h2 : v ≤ getAx s ax) : inB n (setAx s ax v) := by
  unfold inB at hs ⊢
  rcases set_of s ax v ha with ⟨e, g⟩ | ⟨e, g⟩ | ⟨e, g⟩ <;> rw [e] <;> dsimp only <;> omega
theorem set_ix {n s : S23} (hn : okN n) {ax v : Int} (ha : 0 ≤ ax ∧ ax ≤ 2) (h2 : v < getAx s ax) : ix n (setAx s ax v) < ix n s := by
  unfold okN at hn
  have key : ∀ a b m : Int, a < b → 1 ≤ m → a * m < b * m := fun a b m h hm => Int.mul_lt_mul_of_pos_right h (by omega)
  unfold ix
  rcases set_of s ax v ha with ⟨e, g⟩ | ⟨e, g⟩ | ⟨e, g⟩ <;> rw [e] <;> dsimp only
  · omega
  · have := key ((s.f2 - 1) * n.f1 + (v - 1)) ((s.f2 - 1) * n.f1 + (s.f1 - 1)) n.f0 (by omega) (by omega)
    omega
  · have h3 := key (v - 1) (s.f2 - 1) n.f1 (by omega) (by omega)
    have := key ((v - 1) * n.f1 + (s.f1 - 1)) ((s.f2 - 1) * n.f1 + (s.f1 - 1)) n.f0 (by omega) (by omega)
    omega
theorem cut_in {n s : S23} {kf : Int} (hn : okN n) (hs : inB n s) (hk : 0 ≤ kf) {c : Ct} (hc : c ∈ cutsL kf s) : (inB n c.l ∧ ix n c.l < ix n s) ∧ (inB n c.r ∧ ix n c.r < ix n s) := by
  obtain ⟨ax, pos, ha, h1, h2, rfl⟩ := mem_cutsL.1 hc
  exact ⟨⟨set_inB hs ha h1 (by omega), set_ix hn ha (by omega)⟩, ⟨set_inB hs ha (by omega) (by omega), set_ix hn ha (by omega)⟩⟩
theorem cut_ok {n s : S23} {kf : Int} {tb : List Int} (hn : okN n) (hs : inB n s) (hk : 0 ≤ kf ∧ kf ≤ 24) (ht : (tb.length : Int) = cnt n) : cutOk n.f0 n.f1 kf tb s = true := by
  unfold cutOk
  rw [Bool.and_eq_true, List.all_eq_true]
  have hn' := hn
  have hs' := hs
  unfold okN at hn'
  unfold inB at hs'
  refine ⟨decide_eq_true (by omega), fun c hc => ?_⟩
  obtain ⟨⟨hl, _⟩, hr, _⟩ := cut_in hn hs hk.1 hc
  have a := ix_lt hl
  have b := ix_lt hr
  unfold ixOk
  rw [ixS_eq hn hl, ixS_eq hn hr]
  simp only [Bool.and_eq_true, decide_eq_true_eq]
  omega
def itemsV (s : S23) (its : List S56) (v : Int) : Int := its.foldl (fun v x => if fitsB x.f1 s = true then mx v x.f2 else v) v
def needV (n : S23) (kf : Int) (its : List S56) (tb : List Int) (s : S23) : Int := (cutsL kf s).foldl (fun v c => mx v (both n.f0 n.f1 tb c)) (itemsV s its 0)
theorem fitsf (a b : S23) : boxpack_fits.f a.f0 a.f1 a.f2 b.f0 b.f1 b.f2 = some (fitsB a b) := by
  unfold boxpack_fits.f fitsB
  by_cases h0 : a.f0 ≤ b.f0 <;> by_cases h1 : a.f1 ≤ b.f1 <;> simp [h0, h1]
theorem rfitsf (a b : S23) : rf_Fits.f a.f0 a.f1 a.f2 b.f0 b.f1 b.f2 = some (fitsB a b) := by
  unfold rf_Fits.f fitsB
  by_cases h0 : a.f0 ≤ b.f0 <;> by_cases h1 : a.f1 ≤ b.f1 <;> simp [h0, h1]
theorem leastl_ev {n s : S23} {kf : Int} (its : List S56) {tb : List Int} (hn : okN n) (hs : inB n s) (hk : 0 ≤ kf ∧ kf ≤ 24) (hi : its.length < 1000000) (ht : (tb.length : Int) = cnt n) : ∀ (q p : List S56) (v : Int), p ++ q = its →
    Ev (fun k => boxpack_Problem_least.l0 k its (its.length : Int) (p.length : Int) n.f0 n.f1 n.f2 kf its tb s.f0 s.f1 s.f2 v) ((cutsL kf s).foldl (fun v c => mx v (both n.f0 n.f1 tb c)) (itemsV s q v))
  | [], p, v, hp => by
    refine Ev.const1 (fun k => ?_)
    rw [boxpack_Problem_least.l0, if_neg (by rw [← hp]; simp), cutv, show (⟨s.f0, s.f1, s.f2⟩ : S23) = s from rfl, if_pos (cut_ok hn hs hk ht)]
    rfl
  | x :: q, p, v, hp => by
    have h2 : (p.length : Int) < (its.length : Int) := by rw [← hp]; exact len_app p q x
    have hx : rd_T56 its (p.length : Int) = x := by rw [← hp]; exact rd56_app p q x
    have ih := leastl_ev its hn hs hk hi ht q (p ++ [x]) (if fitsB x.f1 s = true then mx v x.f2 else v) (by rw [← hp]; simp)
    rw [len_snoc] at ih
    refine Ev.step (f := fun k => boxpack_Problem_least.l0 k its (its.length : Int) ((p.length : Int) + 1) n.f0 n.f1 n.f2 kf its tb s.f0 s.f1 s.f2 (if fitsB x.f1 s = true then mx v x.f2 else v)) (fun k => ?_) ih
    rw [boxpack_Problem_least.l0, if_pos h2, if_pos (by omega), if_pos h2, hx, wrn _ (by omega)]
    simp only [boxpack_sides.f, Option.bind_some]
    rw [fitsf x.f1 s]
    simp only [Option.bind_some]
    cases fitsB x.f1 s <;> rfl
theorem least_ev {n s : S23} {kf : Int} (its : List S56) {tb : List Int} (hn : okN n) (hs : inB n s) (hk : 0 ≤ kf ∧ kf ≤ 24) (hi : its.length < 1000000) (ht : (tb.length : Int) = cnt n) :
    Ev (fun k => boxpack_Problem_least.f k n.f0 n.f1 n.f2 kf its tb s.f0 s.f1 s.f2) (needV n kf its tb s) := leastl_ev its hn hs hk hi ht its [] 0 rfl
theorem with_eq (s : S23) (ax v : Int) (ha : 0 ≤ ax ∧ ax ≤ 2) : rf_with.f s.f0 s.f1 s.f2 ax v = some ((setAx s ax v).f0, (setAx s ax v).f1, (setAx s ax v).f2) := by
  have h1 : ax = 0 ∨ ax = 1 ∨ ax = 2 := by omega
  rcases h1 with rfl | rfl | rfl <;> rfl
theorem index_eq {n s : S23} (kf : Int) (its : List S56) (hn : okN n) (hs : inB n s) : rf_index.f n.f0 n.f1 n.f2 kf its s.f0 s.f1 s.f2 = some (ix n s) := by
  rw [← ixS_eq hn hs]; rfl
theorem get_inB {n s : S23} (hn : okN n) (hs : inB n s) {ax : Int} (ha : 0 ≤ ax ∧ ax ≤ 2) : 1 ≤ getAx s ax ∧ getAx s ax ≤ 24 := by
  unfold okN at hn
  unfold inB at hs
  rcases set_of s ax 0 ha with ⟨_, g⟩ | ⟨_, g⟩ | ⟨_, g⟩ <;> rw [g] <;> omega
theorem need2_ev {n s : S23} {kf : Int} (its : List S56) {tb : List Int} (hn : okN n) (hs : inB n s) (hk : 0 ≤ kf ∧ kf ≤ 24) (ht : (tb.length : Int) = cnt n) {ax : Int} (ha : 0 ≤ ax ∧ ax ≤ 2) (R : Int) : ∀ (m : Nat) (pos v : Int), (getAx s ax - kf - pos).toNat ≤ m → 1 ≤ pos → pos ≤ 24 →
    Ev (fun k => rf_need.l1 k tb (((cutsA kf s ax).drop (pos - 1).toNat).foldl (fun v c => mx v (both n.f0 n.f1 tb c)) v) (ax + 1) n.f0 n.f1 n.f2 kf its s.f0 s.f1 s.f2) R →
    Ev (fun k => rf_need.l2 k tb v ax pos n.f0 n.f1 n.f2 kf its s.f0 s.f1 s.f2) R
  | m, pos, v, hm, h1, h24, hR => by
    have hg := get_inB hn hs ha
    by_cases hc : pos + kf < getAx s ax
    · match m with
      | 0 => omega
      | m + 1 =>
        have hin : (inB n (setAx s ax pos) ∧ ix n (setAx s ax pos) < ix n s) ∧ (inB n (setAx s ax (getAx s ax - pos - kf)) ∧ ix n (setAx s ax (getAx s ax - pos - kf)) < ix n s) := cut_in hn hs hk.1 (mem_cutsL.2 ⟨ax, pos, ha, h1, hc, rfl⟩)
        have il := ix_lt hin.1.1
        have ir := ix_lt hin.2.1
        rw [cutsA_step kf s ax pos h1 hc, List.foldl_cons] at hR
        have ih := need2_ev its hn hs hk ht ha R m (pos + 1) (mx v (both n.f0 n.f1 tb (ctA kf s ax pos))) (by omega) (by omega) (by omega) (by rw [show pos + 1 - 1 = pos by omega]; exact hR)
        refine Ev.step (f := fun k => rf_need.l2 k tb (mx v (both n.f0 n.f1 tb (ctA kf s ax pos))) ax (pos + 1) n.f0 n.f1 n.f2 kf its s.f0 s.f1 s.f2) (fun k => ?_) ih
        rw [rf_need.l2, side_eq s ax ha, wr (x := pos + kf) (by omega)]
        simp only [Option.bind_some]
        rw [if_pos hc, with_eq s ax pos ha]
        simp only [Option.bind_some]
        rw [wr (x := getAx s ax - pos) (by omega), wr (x := getAx s ax - pos - kf) (by omega), with_eq s ax _ ha]
        simp only [Option.bind_some]
        rw [index_eq kf its hn hin.1.1]
        simp only [Option.bind_some]
        rw [if_pos il.1, if_pos (by omega), index_eq kf its hn hin.2.1]
        simp only [Option.bind_some]
        rw [if_pos ir.1, if_pos (by omega), wr (x := pos + 1) (by omega)]
        show _ = rf_need.l2 k tb (mx v (wrap64 (rd tb (ixS n.f0 n.f1 (setAx s ax pos)) + rd tb (ixS n.f0 n.f1 (setAx s ax (getAx s ax - pos - kf)))))) ax (pos + 1) n.f0 n.f1 n.f2 kf its s.f0 s.f1 s.f2
        rw [ixS_eq hn hin.1.1, ixS_eq hn hin.2.1]
    · rw [cutsA_end kf s ax pos h1 hc] at hR
      refine Ev.step (f := fun k => rf_need.l1 k tb v (ax + 1) n.f0 n.f1 n.f2 kf its s.f0 s.f1 s.f2) (fun k => ?_) hR
      rw [rf_need.l2, side_eq s ax ha, wr (x := pos + kf) (by omega)]
      simp only [Option.bind_some]
      rw [if_neg hc, wr (x := ax + 1) (by omega)]
theorem need1_ev {n s : S23} {kf : Int} (its : List S56) {tb : List Int} (hn : okN n) (hs : inB n s) (hk : 0 ≤ kf ∧ kf ≤ 24) (ht : (tb.length : Int) = cnt n) (v : Int) : Ev (fun k => rf_need.l1 k tb v 0 n.f0 n.f1 n.f2 kf its s.f0 s.f1 s.f2) ((cutsL kf s).foldl (fun v c => mx v (both n.f0 n.f1 tb c)) v) := by
  have h := fun (ax : Int) (ha : 0 ≤ ax ∧ ax ≤ 2) (v R : Int) (hR : Ev (fun k => rf_need.l1 k tb ((cutsA kf s ax).foldl (fun v c => mx v (both n.f0 n.f1 tb c)) v) (ax + 1) n.f0 n.f1 n.f2 kf its s.f0 s.f1 s.f2) R) =>
    Ev.step (g := fun k => rf_need.l1 k tb v ax n.f0 n.f1 n.f2 kf its s.f0 s.f1 s.f2) (fun k => by rw [rf_need.l1, if_pos (by omega)]) (need2_ev its hn hs hk ht ha R _ 1 v (Nat.le_refl _) (by decide) (by decide) hR)
  unfold cutsL
  rw [List.foldl_append, List.foldl_append]
  refine h 0 (by decide) _ _ (h 1 (by decide) _ _ (h 2 (by decide) _ _ ?_))
  refine Ev.const1 (fun k => ?_)
  rw [rf_need.l1, if_neg (by decide)]
theorem need0_ev {n s : S23} {kf : Int} (its : List S56) {tb : List Int} (hn : okN n) (hs : inB n s) (hk : 0 ≤ kf ∧ kf ≤ 24) (hi : its.length < 1000000) (ht : (tb.length : Int) = cnt n) : ∀ (q p : List S56) (v : Int), p ++ q = its →
    Ev (fun k => rf_need.l0 k tb v (p.length : Int) n.f0 n.f1 n.f2 kf its s.f0 s.f1 s.f2) ((cutsL kf s).foldl (fun v c => mx v (both n.f0 n.f1 tb c)) (itemsV s q v))
  | [], p, v, hp => by
    refine Ev.step (f := fun k => rf_need.l1 k tb v 0 n.f0 n.f1 n.f2 kf its s.f0 s.f1 s.f2) (fun k => ?_) (need1_ev its hn hs hk ht v)
    rw [rf_need.l0, if_neg (by rw [← hp]; simp)]
  | x :: q, p, v, hp => by
    have h2 : (p.length : Int) < (its.length : Int) := by rw [← hp]; exact len_app p q x
    have hx : rd_T56 its (p.length : Int) = x := by rw [← hp]; exact rd56_app p q x
    have ih := need0_ev its hn hs hk hi ht q (p ++ [x]) (if fitsB x.f1 s = true then mx v x.f2 else v) (by rw [← hp]; simp)
    rw [len_snoc] at ih
    refine Ev.step (f := fun k => rf_need.l0 k tb (if fitsB x.f1 s = true then mx v x.f2 else v) ((p.length : Int) + 1) n.f0 n.f1 n.f2 kf its s.f0 s.f1 s.f2) (fun k => ?_) ih
    rw [rf_need.l0, if_pos h2, if_pos (by omega), hx, wrn _ (by omega), rfitsf x.f1 s]
    simp only [Option.bind_some]
    cases fitsB x.f1 s <;> rfl
theorem need_ev {n s : S23} {kf : Int} (its : List S56) {tb : List Int} (hn : okN n) (hs : inB n s) (hk : 0 ≤ kf ∧ kf ≤ 24) (hi : its.length < 1000000) (ht : (tb.length : Int) = cnt n) :
    Ev (fun k => rf_need.f k n.f0 n.f1 n.f2 kf its tb s.f0 s.f1 s.f2) (needV n kf its tb s) := need0_ev its hn hs hk hi ht its [] 0 rfl

def tabGo (n : S23) (kf : Int) (its : List S56) : Nat → Nat → List Int → List Int
  | 0, _, tb => tb
  | m + 1, i, tb => tabGo n kf its m (i + 1) (tb.set i (needV n kf its tb (sz n i)))
def tabT (n : S23) (kf : Int) (its : List S56) : List Int := tabGo n kf its (cnt n).toNat 0 (List.replicate (cnt n).toNat 0)
def badV (v : Int) : Bool := decide (v < 0) || decide (v > 100000000000000)
def ckGo (n : S23) (kf : Int) (its : List S56) (tb : List Int) : List Int → Nat → Int × Int
  | [], _ => (tb.length, 0)
  | v :: s, i => if v < needV n kf its tb (sz n i) then ((i : Int), 10) else ckGo n kf its tb s (i + 1)
def ckT (n : S23) (kf : Int) (its : List S56) (tb : List Int) : Int × Int := if (tb.length : Int) = cnt n then (if tb.any badV = true then (0, 1) else ckGo n kf its tb tb 0) else (0, 1)
theorem chk_ok {n : S23} {kf : Int} {its : List S56} (h : chk n kf its = 0) : okN n ∧ (0 ≤ kf ∧ kf ≤ 24) ∧ its.length ≤ 6 ∧ its.all itOk = true ∧ dup [] its = false := by
  unfold chk at h
  by_cases h6 : its.length > 6
  · rw [if_pos h6] at h; omega
  rw [if_neg h6] at h
  cases h1 : its.any nameless <;> rw [h1] at h
  · simp only [Bool.false_eq_true, if_false] at h
    cases h2 : (pos3 n && decide (0 ≤ kf ∧ kf ≤ 24) && its.all itOk) <;> rw [h2] at h
    · simp at h
    · simp only [if_true] at h
      simp only [Bool.and_eq_true, decide_eq_true_eq] at h2
      refine ⟨pos3_ok h2.1.1, h2.1.2, by omega, h2.2, ?_⟩
      cases h3 : dup [] its
      · rfl
      · rw [h3] at h; simp at h
  · simp at h
theorem count_eq {n : S23} (hn : okN n) (kf : Int) (its : List S56) : boxpack_Problem_count.f n.f0 n.f1 n.f2 kf its = some (cnt n) := by
  have hc := cnt_le hn
  have hn' := hn
  unfold okN at hn'
  have m := mul_le (a := n.f0) (b := n.f1) (A := 24) (B := 24) (by omega) (by omega) (by omega) (by omega)
  unfold boxpack_Problem_count.f
  rw [wr (x := n.f0 * n.f1) (by omega)]
  unfold cnt at hc ⊢
  rw [wr (by omega)]
theorem rcount_eq {n : S23} (hn : okN n) (kf : Int) (its : List S56) : rf_count.f n.f0 n.f1 n.f2 kf its = some (cnt n) := count_eq hn kf its
theorem tabl_ev {n : S23} {kf : Int} {its : List S56} (hn : okN n) (hk : 0 ≤ kf ∧ kf ≤ 24) (hi : its.length < 1000000) : ∀ (m i : Nat) (tb : List Int), (tb.length : Int) = cnt n → i + m = (cnt n).toNat →
    Ev (fun k => boxpack_Problem_table.l0 k tb (cnt n) (i : Int) n.f0 n.f1 n.f2 kf its) (tabGo n kf its m i tb)
  | 0, i, tb, ht, hm => by
    have hc := cnt_le hn
    refine Ev.const1 (fun k => ?_)
    rw [boxpack_Problem_table.l0, if_neg (by omega)]
    rfl
  | m + 1, i, tb, ht, hm => by
    have hc := cnt_le hn
    have h0 : (0 : Int) ≤ (i : Int) := by omega
    have h1 : (i : Int) < cnt n := by omega
    have ih := tabl_ev hn hk hi m (i + 1) (tb.set i (needV n kf its tb (sz n i))) (by rw [List.length_set]; exact ht) (by omega)
    refine Ev.step (f := fun k => (boxpack_Problem_least.f k n.f0 n.f1 n.f2 kf its tb (sz n i).f0 (sz n i).f1 (sz n i).f2).bind fun t164 => boxpack_Problem_table.l0 k (tb.set i t164) (cnt n) (((i + 1 : Nat)) : Int) n.f0 n.f1 n.f2 kf its) (fun k => ?_) ?_
    · rw [boxpack_Problem_table.l0, if_pos h1, size_eq hn kf its h0 h1, wrn i (by omega)]
      simp only [Option.bind_some]
      congr 1
      funext t
      rw [if_pos h0, if_pos (by omega), Int.toNat_natCast]
      rfl
    · exact Ev.bind (f := fun k t164 => boxpack_Problem_table.l0 k (tb.set i t164) (cnt n) (((i + 1 : Nat)) : Int) n.f0 n.f1 n.f2 kf its) (least_ev its hn (sz_inB hn h0 h1) hk hi ht) ih
theorem table_ev {n : S23} {kf : Int} {its : List S56} (hn : okN n) (hk : 0 ≤ kf ∧ kf ≤ 24) (hi : its.length < 1000000) : Ev (fun k => boxpack_Problem_table.f k n.f0 n.f1 n.f2 kf its) (tabT n kf its) := by
  have hc := cnt_le hn
  refine Ev.congr (f := fun k => boxpack_Problem_table.l0 k (List.replicate (cnt n).toNat 0) (cnt n) ((0 : Nat) : Int) n.f0 n.f1 n.f2 kf its) (fun k => ?_) (tabl_ev hn hk hi (cnt n).toNat 0 _ (by simp; omega) (by omega))
  show boxpack_Problem_table.f k n.f0 n.f1 n.f2 kf its = _
  unfold boxpack_Problem_table.f
  rw [count_eq hn]
  simp only [Option.bind_some]
  rw [if_pos (by omega), if_pos (by omega), List.length_replicate, show (((cnt n).toNat : Nat) : Int) = cnt n by omega]
  rfl
theorem rtabl_ev {n : S23} {kf : Int} {its : List S56} (hn : okN n) (hk : 0 ≤ kf ∧ kf ≤ 24) (hi : its.length < 1000000) : ∀ (m i : Nat) (tb : List Int), (tb.length : Int) = cnt n → i + m = (cnt n).toNat →
    Ev (fun k => rf_Table.l0 k tb (i : Int) n.f0 n.f1 n.f2 kf its) (tabGo n kf its m i tb)
  | 0, i, tb, ht, hm => by
    have hc := cnt_le hn
    refine Ev.const1 (fun k => ?_)
    rw [rf_Table.l0, if_neg (by omega)]
    rfl
  | m + 1, i, tb, ht, hm => by
    have hc := cnt_le hn
    have h0 : (0 : Int) ≤ (i : Int) := by omega
    have h1 : (i : Int) < cnt n := by omega
    have ih := rtabl_ev hn hk hi m (i + 1) (tb.set i (needV n kf its tb (sz n i))) (by rw [List.length_set]; exact ht) (by omega)
    refine Ev.step (f := fun k => (rf_need.f k n.f0 n.f1 n.f2 kf its tb (sz n i).f0 (sz n i).f1 (sz n i).f2).bind fun t164 => rf_Table.l0 k (tb.set i t164) (((i + 1 : Nat)) : Int) n.f0 n.f1 n.f2 kf its) (fun k => ?_) ?_
    · rw [rf_Table.l0, if_pos (by omega), rsize_eq hn kf its h0 h1, wrn i (by omega)]
      simp only [Option.bind_some]
      congr 1
    · exact Ev.bind (f := fun k t164 => rf_Table.l0 k (tb.set i t164) (((i + 1 : Nat)) : Int) n.f0 n.f1 n.f2 kf its) (need_ev its hn (sz_inB hn h0 h1) hk hi ht) ih
theorem rtable_ev {n : S23} {kf : Int} {its : List S56} (hn : okN n) (hk : 0 ≤ kf ∧ kf ≤ 24) (hi : its.length < 1000000) : Ev (fun k => rf_Table.f k n.f0 n.f1 n.f2 kf its) (tabT n kf its) := by
  have hc := cnt_le hn
  refine Ev.congr (f := fun k => rf_Table.l0 k (List.replicate (cnt n).toNat 0) ((0 : Nat) : Int) n.f0 n.f1 n.f2 kf its) (fun k => ?_) (rtabl_ev hn hk hi (cnt n).toNat 0 _ (by simp; omega) (by omega))
  show rf_Table.f k n.f0 n.f1 n.f2 kf its = _
  unfold rf_Table.f
  rw [rcount_eq hn]
  simp only [Option.bind_some]
  rw [if_pos (by omega), if_pos (by omega)]
  rfl
theorem Table_ev (n : S23) (kf : Int) (its : List S56) : Ev (fun k => boxpack_Table.f k n.f0 n.f1 n.f2 kf its) (if chk n kf its = 0 then (tabT n kf its, 0) else ([], chk n kf its)) := by
  unfold boxpack_Table.f
  refine Ev.bind (f := fun k t167 => if t167 = 0 then ((boxpack_Problem_table.f k n.f0 n.f1 n.f2 kf its).bind fun t168 => (some (t168, 0))) else (some (([] : List Int), t167))) (check_ev n kf its) ?_
  by_cases hc : chk n kf its = 0
  · obtain ⟨hn, hk, hi, _⟩ := chk_ok hc
    simp only [if_pos hc]
    exact Ev.bind (f := fun _ t168 => some (t168, 0)) (table_ev hn hk (by omega)) (Ev.now _)
  · simp only [if_neg hc]
    exact Ev.now _
theorem bad_ev (tb : List Int) (hl : tb.length < 1000000) : Ev (fun k => slices_ContainsFunc_int64_int64_by_boxpack_CheckTable_1.f k tb) (tb.any badV) :=
  ix_any (fun k xs n i => slices_IndexFunc_int64_int64_by_boxpack_CheckTable_1.l0 k xs n i) (fun _ x => boxpack_CheckTable_1.f x) rd rd_app (fun _ _ _ _ => rfl) badV tb (fun x _ => Ev.const fun _ => by
    unfold boxpack_CheckTable_1.f badV
    by_cases h : x < 0 <;> simp [h]) hl
theorem ckl_ev {n : S23} {kf : Int} {its : List S56} (hn : okN n) (hk : 0 ≤ kf ∧ kf ≤ 24) (hi : its.length < 1000000) (tb : List Int) (ht : (tb.length : Int) = cnt n) : ∀ (s p : List Int), p ++ s = tb →
    Ev (fun k => boxpack_CheckTable.l0 k tb tb (tb.length : Int) (p.length : Int) n.f0 n.f1 n.f2 kf its) (ckGo n kf its tb s p.length)
  | [], p, hp => by
    refine Ev.const1 (fun k => ?_)
    rw [boxpack_CheckTable.l0, if_neg (by rw [← hp]; simp)]
    rfl
  | v :: s, p, hp => by
    have hc := cnt_le hn
    have h2 : (p.length : Int) < (tb.length : Int) := by rw [← hp]; exact len_app p s v
    have hx : rd tb (p.length : Int) = v := by rw [← hp]; exact rd_app p s v
    have ih := ckl_ev hn hk hi tb ht s (p ++ [v]) (by rw [← hp]; simp)
    rw [len_snoc] at ih
    have hb := sz_inB hn (show (0 : Int) ≤ (p.length : Int) by omega) (show (p.length : Int) < cnt n by omega)
    refine Ev.step (f := fun k => (boxpack_Problem_least.f k n.f0 n.f1 n.f2 kf its tb (sz n p.length).f0 (sz n p.length).f1 (sz n p.length).f2).bind fun t182 => if v < t182 then some ((p.length : Int), 10) else boxpack_CheckTable.l0 k tb tb (tb.length : Int) ((p.length : Int) + 1) n.f0 n.f1 n.f2 kf its) (fun k => ?_) ?_
    · rw [boxpack_CheckTable.l0, if_pos h2, if_pos (by omega), if_pos h2, size_eq hn kf its (by omega) (by omega), hx, wrn _ (by omega)]
      rfl
    · refine Ev.bind (f := fun k t182 => if v < t182 then some ((p.length : Int), 10) else boxpack_CheckTable.l0 k tb tb (tb.length : Int) ((p.length : Int) + 1) n.f0 n.f1 n.f2 kf its) (least_ev its hn hb hk hi ht) ?_
      rw [ckGo]
      by_cases hv : v < needV n kf its tb (sz n p.length)
      · simp only [if_pos hv]
        exact Ev.now _
      · simp only [if_neg hv]
        rw [show (p ++ [v]).length = p.length + 1 by simp] at ih
        exact ih
theorem ckf_ev (n : S23) (kf : Int) (its : List S56) (tb : List Int) : Ev (fun k => boxpack_CheckTable.f k n.f0 n.f1 n.f2 kf its tb) (if chk n kf its = 0 then ckT n kf its tb else (0, chk n kf its)) := by
  unfold boxpack_CheckTable.f
  refine Ev.bind (f := fun k t175 => if t175 = 0 then ((boxpack_Problem_count.f n.f0 n.f1 n.f2 kf its).bind fun t176 => (if (tb.length : Int) = t176 then ((slices_ContainsFunc_int64_int64_by_boxpack_CheckTable_1.f k tb).bind fun t177 => (boxpack_CheckTable.j0 k tb t177 n.f0 n.f1 n.f2 kf its)) else (boxpack_CheckTable.j0 k tb true n.f0 n.f1 n.f2 kf its))) else (some (0, t175))) (check_ev n kf its) ?_
  by_cases hc : chk n kf its = 0
  · obtain ⟨hn, hk, hi, _⟩ := chk_ok hc
    simp only [if_pos hc]
    have cn := cnt_le hn
    rw [count_eq hn]
    simp only [Option.bind_some]
    unfold ckT
    by_cases hl : (tb.length : Int) = cnt n
    · simp only [if_pos hl]
      refine Ev.bind (f := fun k t177 => boxpack_CheckTable.j0 k tb t177 n.f0 n.f1 n.f2 kf its) (bad_ev tb (by omega)) ?_
      refine Ev.step (f := fun k => if tb.any badV = true then some (0, 1) else boxpack_CheckTable.l0 k tb tb (tb.length : Int) 0 n.f0 n.f1 n.f2 kf its) (fun k => rfl) ?_
      cases tb.any badV
      · exact ckl_ev hn hk (by omega) tb hl tb [] rfl
      · exact Ev.now _
    · simp only [if_neg hl]
      exact Ev.const1 (fun k => rfl)
  · simp only [if_neg hc]
    exact Ev.now _
theorem rckl_ev {n : S23} {kf : Int} {its : List S56} (hn : okN n) (hk : 0 ≤ kf ∧ kf ≤ 24) (hi : its.length < 1000000) (tb : List Int) (ht : (tb.length : Int) = cnt n) : ∀ (s p : List Int), p ++ s = tb →
    Ev (fun k => rf_CheckTable.l1 k tb (p.length : Int) n.f0 n.f1 n.f2 kf its) (ckGo n kf its tb s p.length)
  | [], p, hp => by
    refine Ev.const1 (fun k => ?_)
    rw [rf_CheckTable.l1, if_neg (by rw [← hp]; simp)]
    rfl
  | v :: s, p, hp => by
    have hc := cnt_le hn
    have h2 : (p.length : Int) < (tb.length : Int) := by rw [← hp]; exact len_app p s v
    have hx : rd tb (p.length : Int) = v := by rw [← hp]; exact rd_app p s v
    have ih := rckl_ev hn hk hi tb ht s (p ++ [v]) (by rw [← hp]; simp)
    rw [len_snoc] at ih
    have hb := sz_inB hn (show (0 : Int) ≤ (p.length : Int) by omega) (show (p.length : Int) < cnt n by omega)
    refine Ev.step (f := fun k => (rf_need.f k n.f0 n.f1 n.f2 kf its tb (sz n p.length).f0 (sz n p.length).f1 (sz n p.length).f2).bind fun t182 => if v < t182 then some ((p.length : Int), 10) else rf_CheckTable.l1 k tb ((p.length : Int) + 1) n.f0 n.f1 n.f2 kf its) (fun k => ?_) ?_
    · rw [rf_CheckTable.l1, if_pos h2, if_pos (by omega), rsize_eq hn kf its (by omega) (by omega), hx, wrn _ (by omega)]
      rfl
    · refine Ev.bind (f := fun k t182 => if v < t182 then some ((p.length : Int), 10) else rf_CheckTable.l1 k tb ((p.length : Int) + 1) n.f0 n.f1 n.f2 kf its) (need_ev its hn hb hk hi ht) ?_
      rw [ckGo]
      by_cases hv : v < needV n kf its tb (sz n p.length)
      · simp only [if_pos hv]
        exact Ev.now _
      · simp only [if_neg hv]
        rw [show (p ++ [v]).length = p.length + 1 by simp] at ih
        exact ih
theorem rck0_ev {n : S23} {kf : Int} {its : List S56} (hn : okN n) (hk : 0 ≤ kf ∧ kf ≤ 24) (hi : its.length < 1000000) (tb : List Int) (ht : (tb.length : Int) = cnt n) : ∀ (s p : List Int), p ++ s = tb →
    Ev (fun k => rf_CheckTable.l0 k tb (p.length : Int) n.f0 n.f1 n.f2 kf its) (if s.any badV = true then (0, 1) else ckGo n kf its tb tb 0)
  | [], p, hp => by
    refine Ev.step (f := fun k => rf_CheckTable.l1 k tb 0 n.f0 n.f1 n.f2 kf its) (fun k => ?_) (rckl_ev hn hk hi tb ht tb [] rfl)
    rw [rf_CheckTable.l0, if_neg (by rw [← hp]; simp)]
  | v :: s, p, hp => by
    have hc := cnt_le hn
    have h2 : (p.length : Int) < (tb.length : Int) := by rw [← hp]; exact len_app p s v
    have hx : rd tb (p.length : Int) = v := by rw [← hp]; exact rd_app p s v
    have ih := rck0_ev hn hk hi tb ht s (p ++ [v]) (by rw [← hp]; simp)
    rw [len_snoc] at ih
    refine Ev.step (f := fun k => if v < 0 then some (0, 1) else if v > 100000000000000 then some (0, 1) else rf_CheckTable.l0 k tb ((p.length : Int) + 1) n.f0 n.f1 n.f2 kf its) (fun k => ?_) ?_
    · rw [rf_CheckTable.l0, if_pos h2, if_pos (by omega), hx, wrn _ (by omega)]
    · rw [List.any_cons]
      unfold badV
      by_cases a : v < 0
      · simp only [if_pos a, decide_eq_true a, Bool.true_or, if_true]
        exact Ev.now _
      · by_cases b : v > 100000000000000
        · simp only [if_neg a, if_pos b, decide_eq_true b, Bool.or_true, Bool.true_or, if_true]
          exact Ev.now _
        · simp only [if_neg a, if_neg b, decide_eq_false a, decide_eq_false b, Bool.or_false, Bool.false_or]
          exact ih
theorem rck_ev {n : S23} {kf : Int} {its : List S56} (hn : okN n) (hk : 0 ≤ kf ∧ kf ≤ 24) (hi : its.length < 1000000) (tb : List Int) : Ev (fun k => rf_CheckTable.f k n.f0 n.f1 n.f2 kf its tb) (ckT n kf its tb) := by
  unfold rf_CheckTable.f ckT
  rw [rcount_eq hn]
  simp only [Option.bind_some]
  by_cases hl : (tb.length : Int) = cnt n
  · simp only [if_pos hl]
    exact rck0_ev hn hk hi tb hl tb [] rfl
  · simp only [if_neg hl]
    exact Ev.now _
def bnd (n : S23) (kf : Int) (its : List S56) (tb : List Int) : Int × Int := if chk n kf its = 0 then (if (ckT n kf its tb).2 = 0 then (rd tb ((tb.length : Int) - 1), 0) else (0, (ckT n kf its tb).2)) else (0, chk n kf its)
theorem ckT_len {n : S23} {kf : Int} {its : List S56} {tb : List Int} (h : (ckT n kf its tb).2 = 0) : (tb.length : Int) = cnt n ∧ tb.any badV = false ∧ ckT n kf its tb = ckGo n kf its tb tb 0 := by
  unfold ckT at h ⊢
  by_cases hl : (tb.length : Int) = cnt n
  · rw [if_pos hl] at h ⊢
    cases hb : tb.any badV <;> rw [hb] at h
    · exact ⟨hl, rfl, rfl⟩
    · simp at h
  · rw [if_neg hl] at h
    simp at h
theorem bnd_ev (n : S23) (kf : Int) (its : List S56) (tb : List Int) : Ev (fun k => boxpack_Bound.f k n.f0 n.f1 n.f2 kf its tb) (bnd n kf its tb) := by
  unfold boxpack_Bound.f bnd
  refine Ev.bind (f := fun _ bt184 => (if bt184.2 = 0 then (if 0 ≤ (wrap64 ((tb.length : Int) - 1)) then (if (wrap64 ((tb.length : Int) - 1)) < (tb.length : Int) then (some (rd tb (wrap64 ((tb.length : Int) - 1)), 0)) else (none)) else (none)) else (some (0, bt184.2)))) (ckf_ev n kf its tb) ?_
  by_cases hc : chk n kf its = 0
  · simp only [if_pos hc]
    obtain ⟨hn, hk, hi, _⟩ := chk_ok hc
    have cn := cnt_le hn
    by_cases h2 : (ckT n kf its tb).2 = 0
    · have hl := (ckT_len h2).1
      simp only [if_pos h2]
      rw [wr (x := (tb.length : Int) - 1) (by omega), if_pos (by omega), if_pos (by omega)]
      exact Ev.now _
    · simp only [if_neg h2]
      exact Ev.now _
  · simp only [if_neg hc]
    exact Ev.now _
theorem same_ev (a : List Int) : ∀ (s p : List Int), p ++ s = a → a.length < 1000000 → Ev (fun k => rf_SameTable.l0 k a a (p.length : Int)) true
  | [], p, hp, hl => by
    refine Ev.const1 (fun k => ?_)
    rw [rf_SameTable.l0, if_neg (by rw [← hp]; simp)]
  | v :: s, p, hp, hl => by
    have h2 : (p.length : Int) < (a.length : Int) := by rw [← hp]; exact len_app p s v
    have ih := same_ev a s (p ++ [v]) (by rw [← hp]; simp) hl
    rw [len_snoc] at ih
    refine Ev.step (fun k => ?_) ih
    rw [rf_SameTable.l0, if_pos h2, if_pos (by omega), if_pos h2, if_pos rfl, wrn _ (by omega)]
theorem sameT_ev (a : List Int) (hl : a.length < 1000000) : Ev (fun k => rf_SameTable.f k a a) true := by
  unfold rf_SameTable.f
  simp only [if_true]
  exact same_ev a a [] rfl hl
theorem tabGo_len (n : S23) (kf : Int) (its : List S56) : ∀ (m i : Nat) (tb : List Int), (tabGo n kf its m i tb).length = tb.length
  | 0, _, _ => rfl
  | m + 1, i, tb => by rw [tabGo, tabGo_len n kf its m, List.length_set]
theorem tabT_len (n : S23) (kf : Int) (its : List S56) : (tabT n kf its).length = (cnt n).toNat := by
  unfold tabT
  rw [tabGo_len, List.length_replicate]

theorem rd23_set (ps : List S23) (k : Nat) (p : S23) (x : Int) (hk : k < ps.length) : rd_T23 (ps.set k p) x = if x.toNat = k then p else rd_T23 ps x := by
  unfold rd_T23
  rw [List.getD_eq_getElem?_getD, List.getElem?_set]
  by_cases h : k = x.toNat
  · rw [if_pos h, if_pos (by omega), if_pos h.symm]; rfl
  · rw [if_neg h, if_neg (fun hh => h hh.symm), List.getD_eq_getElem?_getD]
def PB (p b : S23) : Prop := (0 ≤ p.f0 ∧ 0 ≤ b.f0 ∧ p.f0 + b.f0 ≤ 24) ∧ (0 ≤ p.f1 ∧ 0 ≤ b.f1 ∧ p.f1 + b.f1 ≤ 24) ∧ (0 ≤ p.f2 ∧ 0 ≤ b.f2 ∧ p.f2 + b.f2 ≤ 24)
theorem PB.ax {p b : S23} (h : PB p b) {ax : Int} (ha : 0 ≤ ax ∧ ax ≤ 2) : 0 ≤ getAx p ax ∧ 0 ≤ getAx b ax ∧ getAx p ax + getAx b ax ≤ 24 := by
  unfold PB at h
  have h1 : ax = 0 ∨ ax = 1 ∨ ax = 2 := by omega
  rcases h1 with rfl | rfl | rfl
  · exact h.1
  · exact h.2.1
  · exact h.2.2
theorem PB.set {p b : S23} (h : PB p b) {ax v w : Int} (ha : 0 ≤ ax ∧ ax ≤ 2) (hv : 0 ≤ v) (hw : 0 ≤ w) (hvw : v + w ≤ 24) : PB (setAx p ax v) (setAx b ax w) := by
  unfold PB at h ⊢
  have h1 : ax = 0 ∨ ax = 1 ∨ ax = 2 := by omega
  rcases h1 with rfl | rfl | rfl
  · exact ⟨⟨hv, hw, hvw⟩, h.2⟩
  · exact ⟨h.1, ⟨hv, hw, hvw⟩, h.2.2⟩
  · exact ⟨h.1, h.2.1, ⟨hv, hw, hvw⟩⟩
def PBs (ps bs : List S23) : Prop := ∀ x : Int, PB (rd_T23 ps x) (rd_T23 bs x)
theorem PBs.set {ps bs : List S23} (h : PBs ps bs) (hl : ps.length = bs.length) {k : Nat} (hk : k < ps.length) {p b : S23} (hp : PB p b) : PBs (ps.set k p) (bs.set k b) := fun x => by
  rw [rd23_set ps k p x hk, rd23_set bs k b x (by omega)]
  by_cases e : x.toNat = k
  · rw [if_pos e, if_pos e]; exact hp
  · rw [if_neg e, if_neg e]; exact h x
theorem awk : lw_awake.f 100 = some true := by decide +kernel
theorem awake_ev : Ev (fun k => lw_awake.f k) true := Ev.of (fun k => lw_awake.mono k) awk
theorem tab_lenI {n : S23} (hn : okN n) (kf : Int) (its : List S56) : ((tabT n kf its).length : Int) = cnt n := by
  have := cnt_le hn
  rw [tabT_len]
  omega
theorem bnd_bad {n : S23} {kf : Int} {its : List S56} {tb : List Int} (hc : chk n kf its = 0) (h : (ckT n kf its tb).2 ≠ 0) : bnd n kf its tb = (0, (ckT n kf its tb).2) := by unfold bnd; rw [if_pos hc, if_neg h]
theorem bnd_good {n : S23} {kf : Int} {its : List S56} {tb : List Int} (hc : chk n kf its = 0) (h : (ckT n kf its tb).2 = 0) : bnd n kf its tb = (rd tb ((tb.length : Int) - 1), 0) := by unfold bnd; rw [if_pos hc, if_pos h]
theorem bnd_no {n : S23} {kf : Int} {its : List S56} {tb : List Int} (hc : chk n kf its ≠ 0) : bnd n kf its tb = (0, chk n kf its) := by unfold bnd; rw [if_neg hc]
theorem Tables_ev (n : S23) (kf : Int) (its : List S56) (tb : List Int) : Ev (fun k => lw_BoxpackTables.f k n.f0 n.f1 n.f2 kf its tb) true := by
  unfold lw_BoxpackTables.f
  refine Ev.bind (f := fun k t315 => lw_BoxpackTables.j0 k tb (!t315) n.f0 n.f1 n.f2 kf its) awake_ev ?_
  refine Ev.step (f := fun k => lw_BoxpackTables.j1 k tb n.f0 n.f1 n.f2 kf its) (fun k => rfl) ?_
  refine Ev.step (f := fun k => (rf_Small.f k n.f0 n.f1 n.f2 kf its 8).bind fun t369 => (if t369 = true then (lw_BoxpackTables.j2 k tb (decide ((tb.length : Int) > 600)) n.f0 n.f1 n.f2 kf its) else (lw_BoxpackTables.j2 k tb true n.f0 n.f1 n.f2 kf its))) (fun k => rfl) ?_
  refine Ev.bind (f := fun k t369 => (if t369 = true then (lw_BoxpackTables.j2 k tb (decide ((tb.length : Int) > 600)) n.f0 n.f1 n.f2 kf its) else (lw_BoxpackTables.j2 k tb true n.f0 n.f1 n.f2 kf its))) (small_ev n kf its 8) ?_
  have hT : Ev (fun k => lw_BoxpackTables.j2 k tb true n.f0 n.f1 n.f2 kf its) true := Ev.const1 (fun k => rfl)
  have h8 : ∀ b, b = true → Ev (fun k => lw_BoxpackTables.j8 k b) true := fun b hb => Ev.const1 (fun k => by rw [hb]; rfl)
  have h13 : ∀ b, b = true → Ev (fun k => lw_BoxpackTables.j13 k b) true := fun b hb => Ev.const1 (fun k => by rw [hb]; rfl)
  have hF : Ev (fun k => lw_BoxpackTables.j2 k tb false n.f0 n.f1 n.f2 kf its) true := by
    refine Ev.step (f := fun k => lw_BoxpackTables.j3 k tb n.f0 n.f1 n.f2 kf its) (fun k => rfl) ?_
    refine Ev.step (f := fun k => (boxpack_Table.f k n.f0 n.f1 n.f2 kf its).bind fun bt370 => (lw_BoxpackTables.j4 k tb bt370.1 bt370.2 n.f0 n.f1 n.f2 kf its)) (fun k => rfl) ?_
    refine Ev.bind (f := fun k bt370 => (lw_BoxpackTables.j4 k tb bt370.1 bt370.2 n.f0 n.f1 n.f2 kf its)) (Table_ev n kf its) ?_
    refine Ev.step (f := fun k => (boxpack_CheckTable.f k n.f0 n.f1 n.f2 kf its tb).bind fun bt374 => (lw_BoxpackTables.j5 k tb _ _ bt374.1 bt374.2 n.f0 n.f1 n.f2 kf its)) (fun k => rfl) ?_
    refine Ev.bind (f := fun k bt374 => (lw_BoxpackTables.j5 k tb _ _ bt374.1 bt374.2 n.f0 n.f1 n.f2 kf its)) (ckf_ev n kf its tb) ?_
    refine Ev.step (f := fun k => (boxpack_Bound.f k n.f0 n.f1 n.f2 kf its tb).bind fun bt376 => (lw_BoxpackTables.j6 k tb _ _ _ _ bt376.1 bt376.2 n.f0 n.f1 n.f2 kf its)) (fun k => rfl) ?_
    refine Ev.bind (f := fun k bt376 => (lw_BoxpackTables.j6 k tb _ _ _ _ bt376.1 bt376.2 n.f0 n.f1 n.f2 kf its)) (bnd_ev n kf its tb) ?_
    refine Ev.step (f := fun k => (rf_Check.f k n.f0 n.f1 n.f2 kf its).bind fun t378 => (lw_BoxpackTables.j7 k tb _ _ _ _ _ _ t378 n.f0 n.f1 n.f2 kf its)) (fun k => rfl) ?_
    refine Ev.bind (f := fun k t378 => (lw_BoxpackTables.j7 k tb _ _ _ _ _ _ t378 n.f0 n.f1 n.f2 kf its)) (rcheck_ev n kf its) ?_
    by_cases hc : chk n kf its = 0
    · obtain ⟨hn, hk, hi, _⟩ := chk_ok hc
      have hcn := cnt_le hn
      simp only [if_pos hc, hc]
      refine Ev.step (f := fun k => lw_BoxpackTables.j9 k tb (tabT n kf its) 0 (ckT n kf its tb).1 (ckT n kf its tb).2 (bnd n kf its tb).1 (bnd n kf its tb).2 n.f0 n.f1 n.f2 kf its) (fun k => rfl) ?_
      refine Ev.step (f := fun k => (rf_CheckTable.f k n.f0 n.f1 n.f2 kf its tb).bind fun bt379 => (lw_BoxpackTables.j10 k tb (tabT n kf its) 0 (ckT n kf its tb).1 (ckT n kf its tb).2 (bnd n kf its tb).1 (bnd n kf its tb).2 bt379.1 bt379.2 n.f0 n.f1 n.f2 kf its)) (fun k => rfl) ?_
      refine Ev.bind (f := fun k bt379 => (lw_BoxpackTables.j10 k tb (tabT n kf its) 0 (ckT n kf its tb).1 (ckT n kf its tb).2 (bnd n kf its tb).1 (bnd n kf its tb).2 bt379.1 bt379.2 n.f0 n.f1 n.f2 kf its)) (rck_ev hn hk (show its.length < 1000000 by omega) tb) ?_
      refine Ev.step (f := fun k => (rf_Table.f k n.f0 n.f1 n.f2 kf its).bind fun t381 => (rf_SameTable.f k (tabT n kf its) t381).bind fun t384 => if t384 = true then lw_BoxpackTables.j11 k tb (bnd n kf its tb).1 (ckT n kf its tb).2 ((bnd n kf its tb).2 != (ckT n kf its tb).2) else lw_BoxpackTables.j11 k tb (bnd n kf its tb).1 (ckT n kf its tb).2 true) (fun k => by rw [lw_BoxpackTables.j10]; simp only [if_true]) ?_
      refine Ev.bind (f := fun k t381 => (rf_SameTable.f k (tabT n kf its) t381).bind fun t384 => if t384 = true then lw_BoxpackTables.j11 k tb (bnd n kf its tb).1 (ckT n kf its tb).2 ((bnd n kf its tb).2 != (ckT n kf its tb).2) else lw_BoxpackTables.j11 k tb (bnd n kf its tb).1 (ckT n kf its tb).2 true) (rtable_ev hn hk (show its.length < 1000000 by omega)) ?_
      refine Ev.bind (f := fun k t384 => if t384 = true then lw_BoxpackTables.j11 k tb (bnd n kf its tb).1 (ckT n kf its tb).2 ((bnd n kf its tb).2 != (ckT n kf its tb).2) else lw_BoxpackTables.j11 k tb (bnd n kf its tb).1 (ckT n kf its tb).2 true) (sameT_ev (tabT n kf its) (by have := tab_lenI hn kf its; omega)) ?_
      simp only [if_true]
      by_cases h2 : (ckT n kf its tb).2 = 0
      · have hl := (ckT_len h2).1
        rw [bnd_good hc h2, h2]
        refine Ev.step (f := fun k => lw_BoxpackTables.j12 k tb (rd tb ((tb.length : Int) - 1)) 0) (fun k => rfl) ?_
        refine Ev.step (f := fun k => lw_BoxpackTables.j13 k (rd tb ((tb.length : Int) - 1) == rd tb ((tb.length : Int) - 1))) (fun k => ?_) (h13 _ (by simp))
        rw [lw_BoxpackTables.j12, if_pos rfl, wr (x := (tb.length : Int) - 1) (by omega), if_pos (by omega), if_pos (by omega)]
      · rw [bnd_bad hc h2]
        refine Ev.step (f := fun k => lw_BoxpackTables.j12 k tb 0 (ckT n kf its tb).2) (fun k => by rw [lw_BoxpackTables.j11, if_neg (by simp)]) ?_
        refine Ev.step (f := fun k => lw_BoxpackTables.j13 k true) (fun k => ?_) (h13 _ rfl)
        rw [lw_BoxpackTables.j12, if_neg h2, if_pos rfl]
    · simp only [if_neg hc, bnd_no hc]
      refine Ev.step (f := fun k => lw_BoxpackTables.j8 k true) (fun k => ?_) (h8 _ rfl)
      rw [lw_BoxpackTables.j7, if_neg hc]
      simp
  have hB : ∀ b, Ev (fun k => lw_BoxpackTables.j2 k tb b n.f0 n.f1 n.f2 kf its) true := fun b => by cases b; exact hF; exact hT
  cases small n kf its 8
  · exact hT
  · exact hB _
instance (n s : S23) : Decidable (inB n s) := by unfold inB; infer_instance
def le23 (s t : S23) : Prop := s.f0 ≤ t.f0 ∧ s.f1 ≤ t.f1 ∧ s.f2 ≤ t.f2
theorem le23.ax {s t : S23} (h : le23 s t) {ax : Int} (ha : 0 ≤ ax ∧ ax ≤ 2) : getAx s ax ≤ getAx t ax := by
  have h1 : ax = 0 ∨ ax = 1 ∨ ax = 2 := by omega
  rcases h1 with rfl | rfl | rfl
  · exact h.1
  · exact h.2.1
  · exact h.2.2
theorem le23.set {s t : S23} (h : le23 s t) {ax v w : Int} (ha : 0 ≤ ax ∧ ax ≤ 2) (hv : v ≤ w) : le23 (setAx s ax v) (setAx t ax w) := by
  have h1 : ax = 0 ∨ ax = 1 ∨ ax = 2 := by omega
  rcases h1 with rfl | rfl | rfl
  · exact ⟨hv, h.2⟩
  · exact ⟨h.1, hv, h.2.2⟩
  · exact ⟨h.1, h.2.1, hv⟩
end Go.Proofs.Ytgacodhpniehiaa.XA
