import Derived.Test.YtgacodhpniehiaaXAx30
set_option linter.unusedVariables false
set_option linter.unusedSimpArgs false
namespace Go.Proofs.Ytgacodhpniehiaa.XA
set_option linter.unusedVariables false
set_option linter.unusedSimpArgs false
open Go.RowKit Opens YtgacodhpniehiaaW.PrintWords YtgacodhpniehiaaW.PrintLast YtgacodhpniehiaaW.PrintMore
theorem wr {x : Int} (h : -9223372036854775808 ≤ x ∧ x ≤ 9223372036854775807) : wrap64 x = x := by unfold wrap64; omega
theorem Ev.eq {α : Type} {g : Nat → Option α} {r s : α} (h : Ev g r) (e : r = s) : Ev g s := e ▸ h
theorem Ev.const {α : Type} {g : Nat → Option α} {r : α} (h : ∀ k, g k = some r) : Ev g r := ⟨0, fun k _ => h k⟩
theorem Ev.const1 {α : Type} {g : Nat → Option α} {r : α} (h : ∀ k, g (k + 1) = some r) : Ev g r := ⟨1, fun k hk => by
  obtain ⟨m, rfl⟩ : ∃ m, k = m + 1 := ⟨k - 1, by omega⟩
  exact h m⟩
theorem Ev.late {α : Type} {g : Nat → Option α} {r : α} (K : Nat) (h : ∀ k, g (k + K) = some r) : Ev g r := ⟨K, fun k hk => by
  obtain ⟨m, rfl⟩ : ∃ m, k = m + K := ⟨k - K, by omega⟩
  exact h m⟩
theorem len_app {α : Type} (p s : List α) (e : α) : ((p.length : Nat) : Int) < ((p ++ e :: s).length : Int) := by simp; omega
theorem app_snoc {α : Type} (p s : List α) (e : α) : p ++ e :: s = (p ++ [e]) ++ s := by simp
theorem len_snoc {α : Type} (p : List α) (e : α) : ((p ++ [e]).length : Int) = (p.length : Int) + 1 := by simp
theorem wrn (n : Nat) (h : n < 1000000) : wrap64 ((n : Int) + 1) = (n : Int) + 1 := wr ⟨by omega, by omega⟩
theorem rd56_app (p s : List S56) (e : S56) : rd_T56 (p ++ e :: s) (p.length : Int) = e := by
  simp [rd_T56, List.getD_eq_getElem?_getD]
theorem rd61_app (p s : List S61) (e : S61) : rd_T61 (p ++ e :: s) (p.length : Int) = e := by
  simp [rd_T61, List.getD_eq_getElem?_getD]
theorem rd_app (p s : List Int) (e : Int) : rd (p ++ e :: s) (p.length : Int) = e := by
  simp [rd, List.getD_eq_getElem?_getD]

def fst {α : Type} (P : α → Bool) : Int → List α → Int
  | _, [] => -1
  | i, x :: s => if P x = true then i else fst P (i + 1) s
theorem fst_any {α : Type} (P : α → Bool) : ∀ (s : List α) (i : Int), 0 ≤ i → decide (fst P i s ≥ 0) = s.any P
  | [], _, _ => rfl
  | x :: s, i, h => by
    rw [fst, List.any_cons]
    by_cases c : P x = true
    · rw [if_pos c, c, decide_eq_true h]; rfl
    · rw [if_neg c, fst_any P s (i + 1) (by omega), Bool.eq_false_iff.2 c]; rfl
theorem ix_ev {α : Type} (L : Nat → List α → Int → Int → Option Int) (g : Nat → α → Option Bool) (rdx : List α → Int → α) (hr : ∀ p s e, rdx (p ++ e :: s) ((p.length : Nat) : Int) = e)
    (hL : ∀ k xs n i, L (k + 1) xs n i = if i < n then (if 0 ≤ i then (if i < (xs.length : Int) then ((g k (rdx xs i)).bind fun t => (if t = true then (some i) else (L k xs n (wrap64 (i + 1))))) else none) else none) else (some (-1))) (P : α → Bool) :
    ∀ (s p : List α), (∀ x ∈ s, Ev (fun k => g k x) (P x)) → (p ++ s).length < 1000000 → Ev (fun k => L k (p ++ s) ((p ++ s).length : Int) (p.length : Int)) (fst P p.length s)
  | [], p, _, hl => by
    refine Ev.const1 (fun k => ?_)
    rw [hL, if_neg (by simp)]
    rfl
  | x :: s, p, hP, hl => by
    refine Ev.step (f := fun k => (g k x).bind fun t => (if t = true then (some (p.length : Int)) else (L k (p ++ x :: s) ((p ++ x :: s).length : Int) ((p.length : Int) + 1)))) (fun k => ?_) ?_
    · rw [hL, if_pos (len_app p s x), if_pos (by omega), if_pos (len_app p s x), hr, wrn _ (by simp at hl; omega)]
    · refine Ev.bind (f := fun k t => if t = true then (some (p.length : Int)) else (L k (p ++ x :: s) ((p ++ x :: s).length : Int) ((p.length : Int) + 1))) (hP x (List.mem_cons_self)) ?_
      rw [fst]
      by_cases c : P x = true
      · simp only [if_pos c]
        exact Ev.now _
      · simp only [if_neg c]
        have := ix_ev L g rdx hr hL P s (p ++ [x]) (fun y hy => hP y (List.mem_cons_of_mem _ hy)) (by rw [← app_snoc]; exact hl)
        rw [← app_snoc, len_snoc] at this
        exact this
theorem ix_any {α : Type} (L : Nat → List α → Int → Int → Option Int) (g : Nat → α → Option Bool) (rdx : List α → Int → α) (hr : ∀ p s e, rdx (p ++ e :: s) ((p.length : Nat) : Int) = e)
    (hL : ∀ k xs n i, L (k + 1) xs n i = if i < n then (if 0 ≤ i then (if i < (xs.length : Int) then ((g k (rdx xs i)).bind fun t => (if t = true then (some i) else (L k xs n (wrap64 (i + 1))))) else none) else none) else (some (-1))) (P : α → Bool)
    (s : List α) (hP : ∀ x ∈ s, Ev (fun k => g k x) (P x)) (hl : s.length < 1000000) : Ev (fun k => (L k s (s.length : Int) 0).bind fun t => some (decide (t ≥ 0))) (s.any P) := by
  have h := ix_ev L g rdx hr hL P s [] hP hl
  refine Ev.bind (f := fun _ t => some (decide (t ≥ 0))) h ?_
  rw [← fst_any P s 0 (by omega)]
  exact Ev.now _

def pos3 (s : S23) : Bool := decide (1 ≤ s.f0 ∧ s.f0 ≤ 24) && decide (1 ≤ s.f1 ∧ s.f1 ≤ 24) && decide (1 ≤ s.f2 ∧ s.f2 ≤ 24)
def itOk (x : S56) : Bool := pos3 x.f1 && decide (0 ≤ x.f2 ∧ x.f2 ≤ 1000000000)
def nameless (x : S56) : Bool := x.f0.toList == ([] : List UInt8)
def sameName (x y : S56) : Bool := x.f0.toList == y.f0.toList
def dup : List S56 → List S56 → Bool
  | _, [] => false
  | p, x :: s => p.any (fun y => sameName y x) || dup (p ++ [x]) s
def chk (n : S23) (kf : Int) (its : List S56) : Int :=
  if its.length > 6 then 7 else if its.any nameless = true then 4 else if (pos3 n && decide (0 ≤ kf ∧ kf ≤ 24) && its.all itOk) = true then (if dup [] its = true then 5 else 0) else 6
theorem possible_ev (a b c : Int) : Ev (fun k => boxpack_possible.f k a b c) (pos3 ⟨a, b, c⟩) := by
  refine Ev.late 4 (fun k => ?_)
  simp only [boxpack_possible.f, boxpack_sides.f, Option.bind_some, boxpack_possible.l0, pos3]
  grind
theorem check2_ev (x : S56) : Ev (fun k => boxpack_Check_2.f k x.f0 x.f1.f0 x.f1.f1 x.f1.f2 x.f2 x.f3 x.f4) (!itOk x) := by
  unfold boxpack_Check_2.f
  refine Ev.bind (f := fun k t109 => if t109 = true then (if x.f2 < 0 then (some true) else (some (decide (x.f2 > 1000000000)))) else (some true)) (possible_ev _ _ _) ?_
  refine Ev.const (fun k => ?_)
  unfold itOk
  rw [show (⟨x.f1.f0, x.f1.f1, x.f1.f2⟩ : S23) = x.f1 from rfl]
  cases pos3 x.f1
  · rfl
  · by_cases h : x.f2 < 0
    · rw [if_pos rfl, if_pos h, decide_eq_false (show ¬ (0 ≤ x.f2 ∧ x.f2 ≤ 1000000000) by omega)]; rfl
    · rw [if_pos rfl, if_neg h]
      by_cases h1 : x.f2 > 1000000000
      · rw [decide_eq_true h1, decide_eq_false (show ¬ (0 ≤ x.f2 ∧ x.f2 ≤ 1000000000) by omega)]; rfl
      · rw [decide_eq_false h1, decide_eq_true (show (0 ≤ x.f2 ∧ x.f2 ≤ 1000000000) by omega)]; rfl
theorem any_not_all {α : Type} (P : α → Bool) : ∀ s : List α, s.any (fun x => !P x) = !s.all P
  | [] => rfl
  | x :: s => by rw [List.any_cons, List.all_cons, any_not_all P s]; cases P x <;> rfl
theorem c1_ev (s : List S56) (hl : s.length < 1000000) : Ev (fun k => api_Item_34_by_boxpack_Check_1.f k s) (s.any nameless) :=
  ix_any (fun k xs n i => api_Item_30_by_boxpack_Check_1.l0 k xs n i) (fun _ x => boxpack_Check_1.f x.f0 x.f1.f0 x.f1.f1 x.f1.f2 x.f2 x.f3 x.f4) rd_T56 rd56_app (fun _ _ _ _ => rfl) nameless s (fun x _ => Ev.const fun _ => rfl) hl
theorem c2_ev (s : List S56) (hl : s.length < 1000000) : Ev (fun k => api_Item_34_by_boxpack_Check_2.f k s) (!s.all itOk) := by
  rw [← any_not_all]
  exact ix_any (fun k xs n i => api_Item_30_by_boxpack_Check_2.l0 k xs n i) (fun k x => boxpack_Check_2.f k x.f0 x.f1.f0 x.f1.f1 x.f1.f2 x.f2 x.f3 x.f4) rd_T56 rd56_app (fun _ _ _ _ => rfl) (fun x => !itOk x) s (fun x _ => check2_ev x) hl
theorem c3_ev (s : List S56) (x : S56) (hl : s.length < 1000000) : Ev (fun k => api_Item_34_by_boxpack_Check_3.f k s x.f0 x.f1.f0 x.f1.f1 x.f1.f2 x.f2 x.f3 x.f4) (s.any (fun y => sameName y x)) :=
  ix_any (fun k xs n i => api_Item_30_by_boxpack_Check_3.l0 k xs n i x.f0 x.f1.f0 x.f1.f1 x.f1.f2 x.f2 x.f3 x.f4) (fun _ y => boxpack_Check_3.f y.f0 y.f1.f0 y.f1.f1 y.f1.f2 y.f2 y.f3 y.f4 x.f0 x.f1.f0 x.f1.f1 x.f1.f2 x.f2 x.f3 x.f4) rd_T56 rd56_app (fun _ _ _ _ => rfl) (fun y => sameName y x) s (fun y _ => Ev.const fun _ => rfl) hl
theorem cl_ev (a b c d : Int) (its : List S56) (hi : its.length < 1000000) : ∀ (s p : List S56), p ++ s = its → Ev (fun k => boxpack_Check.l0 k its (its.length : Int) (p.length : Int) a b c d its) (if dup p s = true then 5 else 0)
  | [], p, hp => by
    refine Ev.const1 (fun k => ?_)
    rw [boxpack_Check.l0, if_neg (by rw [← hp]; simp)]
    rfl
  | x :: s, p, hp => by
    have hlt : (p.length : Int) < (its.length : Int) := by rw [← hp]; exact len_app p s x
    refine Ev.step (f := fun k => (api_Item_34_by_boxpack_Check_3.f k p x.f0 x.f1.f0 x.f1.f1 x.f1.f2 x.f2 x.f3 x.f4).bind fun t => (if t = true then (some 5) else (boxpack_Check.l0 k its (its.length : Int) ((p ++ [x]).length : Int) a b c d its))) (fun k => ?_) ?_
    · rw [boxpack_Check.l0, if_pos hlt, if_pos (by omega), if_pos hlt, if_pos (by omega), show (its.take ((p.length : Int)).toNat) = p by rw [← hp]; simp, show rd_T56 its (p.length : Int) = x by rw [← hp]; exact rd56_app p s x, wrn _ (by omega), len_snoc]
    · refine Ev.bind (f := fun k t => (if t = true then (some 5) else (boxpack_Check.l0 k its (its.length : Int) ((p ++ [x]).length : Int) a b c d its))) (c3_ev p x (by have := congrArg List.length hp; simp at this; omega)) ?_
      rw [dup]
      cases hd : p.any (fun y => sameName y x)
      · simp only [Bool.false_eq_true, if_false, Bool.false_or]
        exact cl_ev a b c d its hi s (p ++ [x]) (by rw [← hp]; simp)
      · simp only [if_true, Bool.true_or]
        exact Ev.now _
theorem cj_ev (a b c d : Int) (its : List S56) (hi : its.length < 1000000) (t : Bool) : Ev (fun k => boxpack_Check.j0 k t a b c d its) (if t = true then 6 else if dup [] its = true then 5 else 0) := by
  refine Ev.step (f := fun k => if t = true then some 6 else boxpack_Check.l0 k its (its.length : Int) 0 a b c d its) (fun k => rfl) ?_
  cases t
  · simp only [Bool.false_eq_true, if_false]
    exact cl_ev a b c d its hi its [] rfl
  · exact Ev.now _
theorem check_ev (n : S23) (kf : Int) (its : List S56) : Ev (fun k => boxpack_Check.f k n.f0 n.f1 n.f2 kf its) (chk n kf its) := by
  unfold boxpack_Check.f chk
  by_cases h6 : (its.length : Int) > 6
  · simp only [if_pos h6, if_pos (show its.length > 6 by omega)]
    exact Ev.now _
  · simp only [if_neg h6, if_neg (show ¬ its.length > 6 by omega)]
    refine Ev.bind (f := fun k t115 => if t115 = true then (some 4) else ((boxpack_possible.f k n.f0 n.f1 n.f2).bind fun t116 => (if t116 = true then (if kf < 0 then (boxpack_Check.j0 k true n.f0 n.f1 n.f2 kf its) else (if kf > 24 then (boxpack_Check.j0 k true n.f0 n.f1 n.f2 kf its) else ((api_Item_34_by_boxpack_Check_2.f k its).bind fun t117 => (boxpack_Check.j0 k t117 n.f0 n.f1 n.f2 kf its)))) else (boxpack_Check.j0 k true n.f0 n.f1 n.f2 kf its)))) (c1_ev its (by omega)) ?_
    cases its.any nameless
    case true => exact Ev.now _
    simp only [Bool.false_eq_true, if_false]
    refine Ev.bind (f := fun k t116 => if t116 = true then (if kf < 0 then (boxpack_Check.j0 k true n.f0 n.f1 n.f2 kf its) else (if kf > 24 then (boxpack_Check.j0 k true n.f0 n.f1 n.f2 kf its) else ((api_Item_34_by_boxpack_Check_2.f k its).bind fun t117 => (boxpack_Check.j0 k t117 n.f0 n.f1 n.f2 kf its)))) else (boxpack_Check.j0 k true n.f0 n.f1 n.f2 kf its)) (possible_ev n.f0 n.f1 n.f2) ?_
    rw [show (⟨n.f0, n.f1, n.f2⟩ : S23) = n from rfl]
    cases pos3 n
    case false =>
      simp only [Bool.false_eq_true, if_false, Bool.false_and]
      exact cj_ev _ _ _ _ its (by omega) true
    simp only [if_true, Bool.true_and]
    by_cases k0 : kf < 0
    · simp only [if_pos k0, decide_eq_false (show ¬ (0 ≤ kf ∧ kf ≤ 24) by omega), Bool.false_and, Bool.false_eq_true, if_false]
      exact cj_ev _ _ _ _ its (by omega) true
    by_cases k1 : kf > 24
    · simp only [if_neg k0, if_pos k1, decide_eq_false (show ¬ (0 ≤ kf ∧ kf ≤ 24) by omega), Bool.false_and, Bool.false_eq_true, if_false]
      exact cj_ev _ _ _ _ its (by omega) true
    simp only [if_neg k0, if_neg k1, decide_eq_true (show (0 ≤ kf ∧ kf ≤ 24) by omega), Bool.true_and]
    refine Ev.bind (f := fun k t117 => boxpack_Check.j0 k t117 n.f0 n.f1 n.f2 kf its) (c2_ev its (by omega)) ?_
    refine Ev.eq (cj_ev _ _ _ _ its (by omega) _) ?_
    cases its.all itOk <;> rfl

theorem side_eq (s : S23) (ax : Int) (h : 0 ≤ ax ∧ ax ≤ 2) : rf_side.f s.f0 s.f1 s.f2 ax = some (getAx s ax) := by
  have : ax = 0 ∨ ax = 1 ∨ ax = 2 := by omega
  rcases this with rfl | rfl | rfl <;> rfl
theorem sized_ev (s : S23) : Ev (fun k => rf_sized.f k s.f0 s.f1 s.f2) (pos3 s) := by
  refine Ev.late 4 (fun k => ?_)
  simp only [rf_sized.f, rf_sized.l0]
  rw [show wrap64 (0 + 1) = 1 from wr ⟨by decide, by decide⟩, show wrap64 (1 + 1) = 2 from wr ⟨by decide, by decide⟩, show wrap64 (2 + 1) = 3 from wr ⟨by decide, by decide⟩]
  simp only [side_eq s 0 (by decide), side_eq s 1 (by decide), side_eq s 2 (by decide), Option.bind_some, pos3]
  rw [show getAx s 0 = s.f0 from rfl, show getAx s 1 = s.f1 from rfl, show getAx s 2 = s.f2 from rfl]
  grind
theorem r3_ev (a b c d : Int) (its : List S56) (hi : its.length < 1000000) (x : S56) (s : List S56) (p : List S56) (hp : p ++ x :: s = its) (R : Int) (hn : Ev (fun k => rf_Check.l2 k ((p.length : Int) + 1) a b c d its) R) : ∀ (q2 q1 : List S56), q1 ++ q2 = p → Ev (fun k => rf_Check.l3 k (p.length : Int) (q1.length : Int) a b c d its) (if q2.any (fun y => sameName y x) = true then 5 else R)
  | [], q1, hq => by
    refine Ev.step (f := fun k => rf_Check.l2 k ((p.length : Int) + 1) a b c d its) (fun k => ?_) hn
    rw [rf_Check.l3, if_neg (by rw [← hq]; simp), wrn _ (by have := congrArg List.length hp; simp at this; omega)]
  | y :: q2, q1, hq => by
    have h1 : (q1.length : Int) < (p.length : Int) := by rw [← hq]; exact len_app q1 q2 y
    have h2 : (p.length : Int) < (its.length : Int) := by rw [← hp]; exact len_app p s x
    have hx : rd_T56 its (p.length : Int) = x := by rw [← hp]; exact rd56_app p s x
    have hy : rd_T56 its (q1.length : Int) = y := by rw [← hp, ← hq, List.append_assoc, List.cons_append]; exact rd56_app q1 (q2 ++ x :: s) y
    refine Ev.step (f := fun k => if x.f0.toList = y.f0.toList then some 5 else rf_Check.l3 k (p.length : Int) ((q1 ++ [y]).length : Int) a b c d its) (fun k => ?_) ?_
    · rw [rf_Check.l3, if_pos h1, if_pos (by omega), if_pos h2, if_pos (by omega), if_pos (by omega), hx, hy, wrn _ (by omega), len_snoc]
    · rw [List.any_cons]
      by_cases he : x.f0.toList = y.f0.toList
      · simp only [if_pos he, sameName, he, beq_self_eq_true, Bool.true_or, if_true]
        exact Ev.now _
      · have he' : (y.f0.toList == x.f0.toList) = false := beq_eq_false_iff_ne.2 (fun h => he h.symm)
        simp only [if_neg he, sameName, he', Bool.false_or]
        exact r3_ev a b c d its hi x s p hp R hn q2 (q1 ++ [y]) (by rw [← hq]; simp)
theorem r2_ev (a b c d : Int) (its : List S56) (hi : its.length < 1000000) : ∀ (s p : List S56), p ++ s = its → Ev (fun k => rf_Check.l2 k (p.length : Int) a b c d its) (if dup p s = true then 5 else 0)
  | [], p, hp => by
    refine Ev.const1 (fun k => ?_)
    rw [rf_Check.l2, if_neg (by rw [← hp]; simp)]
    rfl
  | x :: s, p, hp => by
    have h2 : (p.length : Int) < (its.length : Int) := by rw [← hp]; exact len_app p s x
    refine Ev.step (f := fun k => rf_Check.l3 k (p.length : Int) 0 a b c d its) (fun k => ?_) ?_
    · rw [rf_Check.l2, if_pos h2]
    · have ih := r2_ev a b c d its hi s (p ++ [x]) (by rw [← hp]; simp)
      rw [len_snoc] at ih
      refine Ev.eq (r3_ev a b c d its hi x s p hp _ ih p [] rfl) ?_
      rw [dup]
      cases p.any (fun y => sameName y x) <;> rfl
theorem r1_ev (n : S23) (d : Int) (its : List S56) (hi : its.length < 1000000) : ∀ (s p : List S56) (ok : Bool), p ++ s = its → Ev (fun k => rf_Check.l1 k ok (p.length : Int) n.f0 n.f1 n.f2 d its) (if (ok && s.all itOk) = true then (if dup [] its = true then 5 else 0) else 6)
  | [], p, ok, hp => by
    refine Ev.step (f := fun k => if ok = true then rf_Check.l2 k 0 n.f0 n.f1 n.f2 d its else some 6) (fun k => ?_) ?_
    · rw [rf_Check.l1, if_neg (by rw [← hp]; simp)]
    · cases ok
      · exact Ev.now _
      · exact r2_ev _ _ _ _ its hi its [] rfl
  | x :: s, p, ok, hp => by
    have h2 : (p.length : Int) < (its.length : Int) := by rw [← hp]; exact len_app p s x
    have hx : rd_T56 its (p.length : Int) = x := by rw [← hp]; exact rd56_app p s x
    have ih := fun ok => r1_ev n d its hi s (p ++ [x]) ok (by rw [← hp]; simp)
    simp only [len_snoc] at ih
    refine Ev.step (f := fun k => if ok = true then ((rf_sized.f k x.f1.f0 x.f1.f1 x.f1.f2).bind fun t257 => (if t257 = true then (if x.f2 ≥ 0 then (rf_Check.l1 k (decide (x.f2 ≤ 1000000000)) ((p.length : Int) + 1) n.f0 n.f1 n.f2 d its) else (rf_Check.l1 k false ((p.length : Int) + 1) n.f0 n.f1 n.f2 d its)) else (rf_Check.l1 k false ((p.length : Int) + 1) n.f0 n.f1 n.f2 d its))) else rf_Check.l1 k false ((p.length : Int) + 1) n.f0 n.f1 n.f2 d its) (fun k => ?_) ?_
    · rw [rf_Check.l1, if_pos h2, if_pos (show 0 ≤ (p.length : Int) by omega), hx, wrn _ (by omega)]
    · cases ok
      · simp only [Bool.false_eq_true, if_false, Bool.false_and]
        refine Ev.eq (ih false) ?_
        simp
      · simp only [if_true, Bool.true_and]
        refine Ev.bind (f := fun k t257 => if t257 = true then (if x.f2 ≥ 0 then (rf_Check.l1 k (decide (x.f2 ≤ 1000000000)) ((p.length : Int) + 1) n.f0 n.f1 n.f2 d its) else (rf_Check.l1 k false ((p.length : Int) + 1) n.f0 n.f1 n.f2 d its)) else (rf_Check.l1 k false ((p.length : Int) + 1) n.f0 n.f1 n.f2 d its)) (sized_ev x.f1) ?_
        rw [List.all_cons]
        unfold itOk
        cases pos3 x.f1
        · simp only [Bool.false_eq_true, if_false, Bool.false_and]
          refine Ev.eq (ih false) ?_
          simp
        · by_cases h0 : x.f2 ≥ 0
          · simp only [if_true, if_pos h0, Bool.true_and]
            refine Ev.eq (ih _) ?_
            rw [show decide (0 ≤ x.f2 ∧ x.f2 ≤ 1000000000) = decide (x.f2 ≤ 1000000000) from decide_eq_decide.2 ⟨fun h => h.2, fun h => ⟨h0, h⟩⟩]
            rfl
          · simp only [if_true, if_neg h0, Bool.true_and]
            refine Ev.eq (ih false) ?_
            rw [decide_eq_false (show ¬ (0 ≤ x.f2 ∧ x.f2 ≤ 1000000000) from fun h => h0 h.1)]
            simp
theorem r0_ev (n : S23) (d : Int) (its : List S56) (hi : its.length < 1000000) : ∀ (s p : List S56), p ++ s = its → Ev (fun k => rf_Check.l0 k (p.length : Int) n.f0 n.f1 n.f2 d its) (if s.any nameless = true then 4 else if (pos3 n && decide (0 ≤ d ∧ d ≤ 24) && its.all itOk) = true then (if dup [] its = true then 5 else 0) else 6)
  | [], p, hp => by
    refine Ev.step (f := fun k => (rf_sized.f k n.f0 n.f1 n.f2).bind fun t255 => (if t255 = true then (if d ≥ 0 then (rf_Check.j1 k (decide (d ≤ 24)) n.f0 n.f1 n.f2 d its) else (rf_Check.j1 k false n.f0 n.f1 n.f2 d its)) else (rf_Check.j1 k false n.f0 n.f1 n.f2 d its))) (fun k => ?_) ?_
    · rw [rf_Check.l0, if_neg (by rw [← hp]; simp)]
    · refine Ev.bind (f := fun k t255 => if t255 = true then (if d ≥ 0 then (rf_Check.j1 k (decide (d ≤ 24)) n.f0 n.f1 n.f2 d its) else (rf_Check.j1 k false n.f0 n.f1 n.f2 d its)) else (rf_Check.j1 k false n.f0 n.f1 n.f2 d its)) (sized_ev n) ?_
      have hj : ∀ ok, Ev (fun k => rf_Check.j1 k ok n.f0 n.f1 n.f2 d its) (if (ok && its.all itOk) = true then (if dup [] its = true then 5 else 0) else 6) := fun ok => Ev.step (f := fun k => rf_Check.l1 k ok 0 n.f0 n.f1 n.f2 d its) (fun k => rfl) (r1_ev n d its hi its [] ok rfl)
      cases pos3 n
      · simp only [Bool.false_eq_true, if_false, Bool.false_and]
        refine Ev.eq (hj false) ?_
        simp
      · by_cases h0 : d ≥ 0
        · simp only [if_true, if_pos h0, Bool.true_and]
          refine Ev.eq (hj _) ?_
          rw [show decide (0 ≤ d ∧ d ≤ 24) = decide (d ≤ 24) from decide_eq_decide.2 ⟨fun h => h.2, fun h => ⟨h0, h⟩⟩]
          rfl
        · simp only [if_true, if_neg h0, Bool.true_and]
          refine Ev.eq (hj false) ?_
          rw [decide_eq_false (show ¬ (0 ≤ d ∧ d ≤ 24) from fun h => h0 h.1)]
          simp
  | x :: s, p, hp => by
    have h2 : (p.length : Int) < (its.length : Int) := by rw [← hp]; exact len_app p s x
    have hx : rd_T56 its (p.length : Int) = x := by rw [← hp]; exact rd56_app p s x
    refine Ev.step (f := fun k => if x.f0.toList = ([] : List UInt8) then some 4 else rf_Check.l0 k ((p ++ [x]).length : Int) n.f0 n.f1 n.f2 d its) (fun k => ?_) ?_
    · rw [rf_Check.l0, if_pos h2, if_pos (by omega), hx, wrn _ (by omega), len_snoc]
    · rw [List.any_cons]
      by_cases he : x.f0.toList = []
      · simp only [if_pos he, nameless, he, beq_self_eq_true, Bool.true_or, if_true]
        exact Ev.now _
      · have he' : nameless x = false := beq_eq_false_iff_ne.2 he
        simp only [if_neg he, he', Bool.false_or]
        exact r0_ev n d its hi s (p ++ [x]) (by rw [← hp]; simp)
theorem rcheck_ev (n : S23) (kf : Int) (its : List S56) : Ev (fun k => rf_Check.f k n.f0 n.f1 n.f2 kf its) (chk n kf its) := by
  unfold rf_Check.f chk
  by_cases h6 : (its.length : Int) > 6
  · simp only [if_pos h6, if_pos (show its.length > 6 by omega)]
    exact Ev.now _
  · simp only [if_neg h6, if_neg (show ¬ its.length > 6 by omega)]
    exact r0_ev n kf its (by omega) its [] rfl
def small (n : S23) (kf : Int) (its : List S56) (m : Int) : Bool := decide (its.length ≤ 8) && (decide (chk n kf its ≠ 0) || decide (n.f0 ≤ m ∧ n.f1 ≤ m ∧ n.f2 ≤ m))
theorem small_ev (n : S23) (kf : Int) (its : List S56) (m : Int) : Ev (fun k => rf_Small.f k n.f0 n.f1 n.f2 kf its m) (small n kf its m) := by
  unfold rf_Small.f small
  by_cases h8 : (its.length : Int) > 8
  · simp only [if_pos h8, decide_eq_false (show ¬ its.length ≤ 8 by omega), Bool.false_and]
    exact Ev.now _
  · simp only [if_neg h8, decide_eq_true (show its.length ≤ 8 by omega), Bool.true_and]
    refine Ev.bind (f := fun k t263 => if t263 = 0 then (if n.f0 ≤ m then (if n.f1 ≤ m then (some (decide (n.f2 ≤ m))) else (some false)) else (some false)) else (some true)) (rcheck_ev n kf its) ?_
    refine Ev.const (fun k => ?_)
    by_cases hc : chk n kf its = 0
    · simp only [if_pos hc, hc, ne_eq, not_true_eq_false, decide_false, Bool.false_or]
      by_cases a : n.f0 ≤ m <;> by_cases b : n.f1 ≤ m <;> simp [a, b]
    · simp [hc]

def inB (n s : S23) : Prop := (1 ≤ s.f0 ∧ s.f0 ≤ n.f0) ∧ (1 ≤ s.f1 ∧ s.f1 ≤ n.f1) ∧ (1 ≤ s.f2 ∧ s.f2 ≤ n.f2)
def okN (n : S23) : Prop := (1 ≤ n.f0 ∧ n.f0 ≤ 24) ∧ (1 ≤ n.f1 ∧ n.f1 ≤ 24) ∧ (1 ≤ n.f2 ∧ n.f2 ≤ 24)
def ix (n s : S23) : Int := ((s.f2 - 1) * n.f1 + (s.f1 - 1)) * n.f0 + (s.f0 - 1)
def cnt (n : S23) : Int := n.f0 * n.f1 * n.f2
def sz (n : S23) (i : Int) : S23 := ⟨i % n.f0 + 1, i / n.f0 % n.f1 + 1, i / n.f0 / n.f1 + 1⟩
theorem S23.ext' {p q : S23} (h0 : p.f0 = q.f0) (h1 : p.f1 = q.f1) (h2 : p.f2 = q.f2) : p = q := by cases p; cases q; simp_all
theorem pos3_ok {n : S23} (h : pos3 n = true) : okN n := by
  unfold pos3 at h
  simp only [Bool.and_eq_true, decide_eq_true_eq] at h
  exact ⟨h.1.1, h.1.2, h.2⟩
theorem mix {a b m M : Int} (ha : 0 ≤ a) (hM : a ≤ M - 1) (hb : 0 ≤ b) (hm : b ≤ m - 1) : 0 ≤ a * m + b ∧ a * m + b ≤ M * m - 1 := by
  have h1 := Int.mul_nonneg ha (show 0 ≤ m by omega)
  have h2 := Int.mul_le_mul_of_nonneg_right hM (show 0 ≤ m by omega)
  rw [Int.sub_mul] at h2
  omega
theorem mul_le {a b A B : Int} (ha : 0 ≤ a) (hA : a ≤ A) (hb : 0 ≤ b) (hB : b ≤ B) : 0 ≤ a * b ∧ a * b ≤ A * B :=
  ⟨Int.mul_nonneg ha hb, Int.mul_le_mul hA hB hb (Int.le_trans ha hA)⟩
theorem cnt_le {n : S23} (hn : okN n) : 1 ≤ cnt n ∧ cnt n ≤ 13824 := by
  obtain ⟨h0, h1, h2⟩ := hn
  unfold cnt
  have a := mul_le (a := n.f0) (b := n.f1) (A := 24) (B := 24) (by omega) h0.2 (by omega) h1.2
  have b := mul_le (a := n.f0 * n.f1) (b := n.f2) (A := 24 * 24) (B := 24) a.1 a.2 (by omega) h2.2
  have c := Int.mul_le_mul h0.1 h1.1 (by decide) (show 0 ≤ n.f0 by omega)
  have d := Int.mul_le_mul c h2.1 (by decide) a.1
  omega
theorem ix_row {n s : S23} (hs : inB n s) : 0 ≤ (s.f2 - 1) * n.f1 + (s.f1 - 1) ∧ (s.f2 - 1) * n.f1 + (s.f1 - 1) ≤ n.f2 * n.f1 - 1 := mix (by have := hs; unfold inB at this; omega) (by have := hs; unfold inB at this; omega) (by have := hs; unfold inB at this; omega) (by have := hs; unfold inB at this; omega)
theorem ix_lt {n s : S23} (hs : inB n s) : 0 ≤ ix n s ∧ ix n s < cnt n := by
  have hr := ix_row hs
  have := mix (a := (s.f2 - 1) * n.f1 + (s.f1 - 1)) (b := s.f0 - 1) (m := n.f0) (M := n.f2 * n.f1) hr.1 (by omega) (by have := hs.1; omega) (by have := hs.1; omega)
  rw [show n.f2 * n.f1 * n.f0 = cnt n by unfold cnt; rw [Int.mul_comm n.f2 n.f1, Int.mul_comm (n.f1 * n.f2) n.f0, ← Int.mul_assoc]] at this
  unfold ix
  omega
theorem ixS_eq {n s : S23} (hn : okN n) (hs : inB n s) : ixS n.f0 n.f1 s = ix n s := by
  have hr := ix_row hs
  have hl := ix_lt hs
  have hc := cnt_le hn
  have hn' := hn
  unfold okN at hn'
  have h21 : 0 ≤ (s.f2 - 1) * n.f1 := Int.mul_nonneg (by have := hs.2.2; omega) (by omega)
  have hm := mul_le (a := n.f2) (b := n.f1) (A := 24) (B := 24) (by omega) (by omega) (by omega) (by omega)
  have hs' := hs
  unfold inB at hs'
  have hq : 0 ≤ ((s.f2 - 1) * n.f1 + (s.f1 - 1)) * n.f0 := Int.mul_nonneg hr.1 (by omega)
  unfold ix at hl ⊢
  unfold ixS
  rw [wr (x := s.f2 - 1) (by omega), wr (x := (s.f2 - 1) * n.f1) (by omega), wr (x := (s.f2 - 1) * n.f1 + s.f1) (by omega), wr (x := (s.f2 - 1) * n.f1 + s.f1 - 1) (by omega),
    show (s.f2 - 1) * n.f1 + s.f1 - 1 = (s.f2 - 1) * n.f1 + (s.f1 - 1) by omega, wr (x := ((s.f2 - 1) * n.f1 + (s.f1 - 1)) * n.f0) (by omega),
    wr (x := ((s.f2 - 1) * n.f1 + (s.f1 - 1)) * n.f0 + s.f0) (by omega), wr (by omega)]
  omega
theorem sz_inB {n : S23} (hn : okN n) {i : Int} (h0 : 0 ≤ i) (h1 : i < cnt n) : inB n (sz n i) := by
  have hn' := hn
  unfold okN at hn'
  have a := Int.emod_nonneg i (show n.f0 ≠ 0 by omega)
  have b := Int.emod_lt_of_pos i (show 0 < n.f0 by omega)
  have c := Int.emod_nonneg (i / n.f0) (show n.f1 ≠ 0 by omega)
  have d := Int.emod_lt_of_pos (i / n.f0) (show 0 < n.f1 by omega)
  have e : 0 ≤ i / n.f0 := Int.ediv_nonneg h0 (by omega)
  have f : 0 ≤ i / n.f0 / n.f1 := Int.ediv_nonneg e (by omega)
  have g : i / n.f0 / n.f1 < n.f2 := by
    rw [Int.ediv_lt_iff_lt_mul (by omega), Int.ediv_lt_iff_lt_mul (by omega)]
    have : n.f2 * n.f1 * n.f0 = cnt n := by unfold cnt; rw [Int.mul_comm n.f2 n.f1, Int.mul_comm (n.f1 * n.f2) n.f0, ← Int.mul_assoc]
    omega
  unfold inB sz
  refine ⟨⟨?_, ?_⟩, ⟨?_, ?_⟩, ?_, ?_⟩ <;> dsimp only <;> omega
theorem sz_ix {n s : S23} (hs : inB n s) : sz n (ix n s) = s := by
  have hs' := hs
  unfold inB at hs'
  have hp0 : n.f0 ≠ 0 := by omega
  have hp1 : n.f1 ≠ 0 := by omega
  have a : ix n s / n.f0 = (s.f2 - 1) * n.f1 + (s.f1 - 1) := by
    unfold ix
    rw [Int.add_comm, Int.add_mul_ediv_right _ _ hp0, Int.ediv_eq_zero_of_lt (by omega) (by omega)]
    omega
  have b : ix n s % n.f0 = s.f0 - 1 := by
    unfold ix
    rw [Int.add_comm, Int.add_mul_emod_self_right, Int.emod_eq_of_lt (by omega) (by omega)]
  have c : ((s.f2 - 1) * n.f1 + (s.f1 - 1)) / n.f1 = s.f2 - 1 := by
    rw [Int.add_comm, Int.add_mul_ediv_right _ _ hp1, Int.ediv_eq_zero_of_lt (by omega) (by omega)]
    omega
  have d : ((s.f2 - 1) * n.f1 + (s.f1 - 1)) % n.f1 = s.f1 - 1 := by
    rw [Int.add_comm, Int.add_mul_emod_self_right, Int.emod_eq_of_lt (by omega) (by omega)]
  unfold sz
  rw [a, b, c, d]
  exact S23.ext' (show s.f0 - 1 + 1 = s.f0 by omega) (show s.f1 - 1 + 1 = s.f1 by omega) (show s.f2 - 1 + 1 = s.f2 by omega)
theorem size_eq {n : S23} (hn : okN n) (kf : Int) (its : List S56) {i : Int} (h0 : 0 ≤ i) (h1 : i < cnt n) : boxpack_Problem_size.f n.f0 n.f1 n.f2 kf its i = some ((sz n i).f0, (sz n i).f1, (sz n i).f2) := by
  have hb := sz_inB hn h0 h1
  have hn' := hn
  unfold okN at hn'
  unfold inB at hb
  have e : 0 ≤ i / n.f0 := Int.ediv_nonneg h0 (by omega)
  have e2 : i / n.f0 ≤ i := Int.ediv_le_self _ h0
  have hc := cnt_le hn
  unfold boxpack_Problem_size.f
  rw [if_neg (by omega), if_neg (by omega), Int.tmod_eq_emod_of_nonneg h0, Int.tdiv_eq_ediv_of_nonneg h0, wr (x := i / n.f0) (by omega), Int.tmod_eq_emod_of_nonneg e, Int.tdiv_eq_ediv_of_nonneg e]
  unfold sz at hb ⊢
  dsimp only at hb ⊢
  rw [wr (x := i / n.f0 / n.f1) (by omega), wr (by omega), wr (by omega), wr (by omega)]
theorem set_of (s : S23) (ax v : Int) (ha : 0 ≤ ax ∧ ax ≤ 2) : (setAx s ax v = ⟨v, s.f1, s.f2⟩ ∧ getAx s ax = s.f0) ∨ (setAx s ax v = ⟨s.f0, v, s.f2⟩ ∧ getAx s ax = s.f1) ∨ (setAx s ax v = ⟨s.f0, s.f1, v⟩ ∧ getAx s ax = s.f2) := by
  have h1 : ax = 0 ∨ ax = 1 ∨ ax = 2 := by omega
  rcases h1 with rfl | rfl | rfl
  · exact Or.inl ⟨rfl, rfl⟩
  · exact Or.inr (Or.inl ⟨rfl, rfl⟩)
  · exact Or.inr (Or.inr ⟨rfl, rfl⟩)
def ctA (kf : Int) (s : S23) (ax pos : Int) : Ct := ⟨ax, pos, setAx s ax pos, setAx s ax (getAx s ax - pos - kf)⟩
theorem mem_cutsA {kf : Int} {s : S23} {ax : Int} {c : Ct} : c ∈ cutsA kf s ax ↔ ∃ pos, 1 ≤ pos ∧ pos + kf < getAx s ax ∧ c = ctA kf s ax pos := by
  unfold cutsA ctA
  simp only [List.mem_map, List.mem_range]
  constructor
  · rintro ⟨i, hi, rfl⟩
    exact ⟨(i : Int) + 1, by omega, by omega, rfl⟩
  · rintro ⟨pos, h1, h2, rfl⟩
    refine ⟨(pos - 1).toNat, by omega, ?_⟩
    rw [show (((pos - 1).toNat : Nat) : Int) + 1 = pos by omega]
theorem mem_cutsL {kf : Int} {s : S23} {c : Ct} : c ∈ cutsL kf s ↔ ∃ ax pos, (0 ≤ ax ∧ ax ≤ 2) ∧ 1 ≤ pos ∧ pos + kf < getAx s ax ∧ c = ctA kf s ax pos := by
  unfold cutsL
  simp only [List.mem_append, mem_cutsA]
  constructor
  · rintro (⟨p, h⟩ | ⟨p, h⟩ | ⟨p, h⟩)
    · exact ⟨0, p, by decide, h⟩
    · exact ⟨1, p, by decide, h⟩
    · exact ⟨2, p, by decide, h⟩
  · rintro ⟨ax, p, ha, h⟩
    have h1 : ax = 0 ∨ ax = 1 ∨ ax = 2 := by omega
    rcases h1 with rfl | rfl | rfl
    · exact Or.inl ⟨p, h⟩
    · exact Or.inr (Or.inl ⟨p, h⟩)
    · exact Or.inr (Or.inr ⟨p, h⟩)
theorem set_inB {n s : S23} (hs : inB n s) {ax v : Int} (ha : 0 ≤ ax ∧ ax ≤ 2) (h1 : 1 ≤ v) (h2 : v ≤ getAx s ax) : inB n (setAx s ax v) := by
  unfold inB at hs ⊢
  rcases set_of s ax v ha with ⟨e, g⟩ | ⟨e, g⟩ | ⟨e, g⟩ <;> rw [e] <;> dsimp only <;> omega
theorem set_ix {n s : S23} (hn : okN n) {ax v : Int} (ha : 0 ≤ ax ∧ ax ≤ 2) (h2 : v < getAx s ax) : ix n (setAx s ax v) < ix n s := by
  unfold okN at hn
  have key : ∀ a b m : Int, a < b → 1 ≤ m → a * m < b * m := fun a b m h hm => Int.mul_lt_mul_of_pos_right h (by omega)
  unfold ix
  rcases set_of s ax v ha with ⟨e, g⟩ | ⟨e, g⟩ | ⟨e, g⟩ <;> rw [e] <;> dsimp only
  · omega
  · have := key ((s.f2 - 1) * n.f1 + (v - 1)) ((s.f2 - 1) * n.f1 + (s.f1 - 1)) n.f0 (by omega) (by omega)
    omega
  · have h3 := key (v - 1) (s.f2 - 1) n.f1 (by omega) (by omega)
    have := key ((v - 1) * n.f1 + (s.f1 - 1)) ((s.f2 - 1) * n.f1 + (s.f1 - 1)) n.f0 (by omega) (by omega)
    omega
theorem cut_in {n s : S23} {kf : Int} (hn : okN n) (hs : inB n s) (hk : 0 ≤ kf) {c : Ct} (hc : c ∈ cutsL kf s) : (inB n c.l ∧ ix n c.l < ix n s) ∧ (inB n c.r ∧ ix n c.r < ix n s) := by
  obtain ⟨ax, pos, ha, h1, h2, rfl⟩ := mem_cutsL.1 hc
  exact ⟨⟨set_inB hs ha h1 (by omega), set_ix hn ha (by omega)⟩, ⟨set_inB hs ha (by omega) (by omega), set_ix hn ha (by omega)⟩⟩
theorem cut_ok {n s : S23} {kf : Int} {tb : List Int} (hn : okN n) (hs : inB n s) (hk : 0 ≤ kf ∧ kf ≤ 24) (ht : (tb.length : Int) = cnt n) : cutOk n.f0 n.f1 kf tb s = true := by
  unfold cutOk
  rw [Bool.and_eq_true, List.all_eq_true]
  have hn' := hn
  have hs' := hs
  unfold okN at hn'
  unfold inB at hs'
  refine ⟨decide_eq_true (by omega), fun c hc => ?_⟩
  obtain ⟨⟨hl, _⟩, hr, _⟩ := cut_in hn hs hk.1 hc
  have a := ix_lt hl
  have b := ix_lt hr
  unfold ixOk
  rw [ixS_eq hn hl, ixS_eq hn hr]
  simp only [Bool.and_eq_true, decide_eq_true_eq]
  omega
def itemsV (s : S23) (its : List S56) (v : Int) : Int := its.foldl (fun v x => if fitsB x.f1 s = true then mx v x.f2 else v) v
def needV (n : S23) (kf : Int) (its : List S56) (tb : List Int) (s : S23) : Int := (cutsL kf s).foldl (fun v c => mx v (both n.f0 n.f1 tb c)) (itemsV s its 0)
theorem fitsf (a b : S23) : boxpack_fits.f a.f0 a.f1 a.f2 b.f0 b.f1 b.f2 = some (fitsB a b) := by
  unfold boxpack_fits.f fitsB
  by_cases h0 : a.f0 ≤ b.f0 <;> by_cases h1 : a.f1 ≤ b.f1 <;> simp [h0, h1]
theorem leastl_ev {n s : S23} {kf : Int} (its : List S56) {tb : List Int} (hn : okN n) (hs : inB n s) (hk : 0 ≤ kf ∧ kf ≤ 24) (hi : its.length < 1000000) (ht : (tb.length : Int) = cnt n) : ∀ (q p : List S56) (v : Int), p ++ q = its →
    Ev (fun k => boxpack_Problem_least.l0 k its (its.length : Int) (p.length : Int) n.f0 n.f1 n.f2 kf its tb s.f0 s.f1 s.f2 v) ((cutsL kf s).foldl (fun v c => mx v (both n.f0 n.f1 tb c)) (itemsV s q v))
  | [], p, v, hp => by
    refine Ev.const1 (fun k => ?_)
    rw [boxpack_Problem_least.l0, if_neg (by rw [← hp]; simp), cutv, show (⟨s.f0, s.f1, s.f2⟩ : S23) = s from rfl, if_pos (cut_ok hn hs hk ht)]
    rfl
  | x :: q, p, v, hp => by
    have h2 : (p.length : Int) < (its.length : Int) := by rw [← hp]; exact len_app p q x
    have hx : rd_T56 its (p.length : Int) = x := by rw [← hp]; exact rd56_app p q x
    have ih := leastl_ev its hn hs hk hi ht q (p ++ [x]) (if fitsB x.f1 s = true then mx v x.f2 else v) (by rw [← hp]; simp)
    rw [len_snoc] at ih
    refine Ev.step (f := fun k => boxpack_Problem_least.l0 k its (its.length : Int) ((p.length : Int) + 1) n.f0 n.f1 n.f2 kf its tb s.f0 s.f1 s.f2 (if fitsB x.f1 s = true then mx v x.f2 else v)) (fun k => ?_) ih
    rw [boxpack_Problem_least.l0, if_pos h2, if_pos (by omega), if_pos h2, hx, wrn _ (by omega)]
    simp only [boxpack_sides.f, Option.bind_some]
    rw [fitsf x.f1 s]
    simp only [Option.bind_some]
    cases fitsB x.f1 s <;> rfl
theorem least_ev {n s : S23} {kf : Int} (its : List S56) {tb : List Int} (hn : okN n) (hs : inB n s) (hk : 0 ≤ kf ∧ kf ≤ 24) (hi : its.length < 1000000) (ht : (tb.length : Int) = cnt n) :
    Ev (fun k => boxpack_Problem_least.f k n.f0 n.f1 n.f2 kf its tb s.f0 s.f1 s.f2) (needV n kf its tb s) := leastl_ev its hn hs hk hi ht its [] 0 rfl
def badV (v : Int) : Bool := decide (v < 0) || decide (v > 100000000000000)
def ckGo (n : S23) (kf : Int) (its : List S56) (tb : List Int) : List Int → Nat → Int × Int
  | [], _ => (tb.length, 0)
  | v :: s, i => if v < needV n kf its tb (sz n i) then ((i : Int), 10) else ckGo n kf its tb s (i + 1)
def ckT (n : S23) (kf : Int) (its : List S56) (tb : List Int) : Int × Int := if (tb.length : Int) = cnt n then (if tb.any badV = true then (0, 1) else ckGo n kf its tb tb 0) else (0, 1)
theorem chk_ok {n : S23} {kf : Int} {its : List S56} (h : chk n kf its = 0) : okN n ∧ (0 ≤ kf ∧ kf ≤ 24) ∧ its.length ≤ 6 ∧ its.all itOk = true ∧ dup [] its = false := by
  unfold chk at h
  by_cases h6 : its.length > 6
  · rw [if_pos h6] at h; omega
  rw [if_neg h6] at h
  cases h1 : its.any nameless <;> rw [h1] at h
  · simp only [Bool.false_eq_true, if_false] at h
    cases h2 : (pos3 n && decide (0 ≤ kf ∧ kf ≤ 24) && its.all itOk) <;> rw [h2] at h
    · simp at h
    · simp only [if_true] at h
      simp only [Bool.and_eq_true, decide_eq_true_eq] at h2
      refine ⟨pos3_ok h2.1.1, h2.1.2, by omega, h2.2, ?_⟩
      cases h3 : dup [] its
      · rfl
      · rw [h3] at h; simp at h
  · simp at h
theorem count_eq {n : S23} (hn : okN n) (kf : Int) (its : List S56) : boxpack_Problem_count.f n.f0 n.f1 n.f2 kf its = some (cnt n) := by
  have hc := cnt_le hn
  have hn' := hn
  unfold okN at hn'
  have m := mul_le (a := n.f0) (b := n.f1) (A := 24) (B := 24) (by omega) (by omega) (by omega) (by omega)
  unfold boxpack_Problem_count.f
  rw [wr (x := n.f0 * n.f1) (by omega)]
  unfold cnt at hc ⊢
  rw [wr (by omega)]
theorem bad_ev (tb : List Int) (hl : tb.length < 1000000) : Ev (fun k => slices_ContainsFunc_int64_int64_by_boxpack_CheckTable_1.f k tb) (tb.any badV) :=
  ix_any (fun k xs n i => slices_IndexFunc_int64_int64_by_boxpack_CheckTable_1.l0 k xs n i) (fun _ x => boxpack_CheckTable_1.f x) rd rd_app (fun _ _ _ _ => rfl) badV tb (fun x _ => Ev.const fun _ => by
    unfold boxpack_CheckTable_1.f badV
    by_cases h : x < 0 <;> simp [h]) hl
theorem ckl_ev {n : S23} {kf : Int} {its : List S56} (hn : okN n) (hk : 0 ≤ kf ∧ kf ≤ 24) (hi : its.length < 1000000) (tb : List Int) (ht : (tb.length : Int) = cnt n) : ∀ (s p : List Int), p ++ s = tb →
    Ev (fun k => boxpack_CheckTable.l0 k tb tb (tb.length : Int) (p.length : Int) n.f0 n.f1 n.f2 kf its) (ckGo n kf its tb s p.length)
  | [], p, hp => by
    refine Ev.const1 (fun k => ?_)
    rw [boxpack_CheckTable.l0, if_neg (by rw [← hp]; simp)]
    rfl
  | v :: s, p, hp => by
    have hc := cnt_le hn
    have h2 : (p.length : Int) < (tb.length : Int) := by rw [← hp]; exact len_app p s v
    have hx : rd tb (p.length : Int) = v := by rw [← hp]; exact rd_app p s v
    have ih := ckl_ev hn hk hi tb ht s (p ++ [v]) (by rw [← hp]; simp)
    rw [len_snoc] at ih
    have hb := sz_inB hn (show (0 : Int) ≤ (p.length : Int) by omega) (show (p.length : Int) < cnt n by omega)
    refine Ev.step (f := fun k => (boxpack_Problem_least.f k n.f0 n.f1 n.f2 kf its tb (sz n p.length).f0 (sz n p.length).f1 (sz n p.length).f2).bind fun t182 => if v < t182 then some ((p.length : Int), 10) else boxpack_CheckTable.l0 k tb tb (tb.length : Int) ((p.length : Int) + 1) n.f0 n.f1 n.f2 kf its) (fun k => ?_) ?_
    · rw [boxpack_CheckTable.l0, if_pos h2, if_pos (by omega), if_pos h2, size_eq hn kf its (by omega) (by omega), hx, wrn _ (by omega)]
      rfl
    · refine Ev.bind (f := fun k t182 => if v < t182 then some ((p.length : Int), 10) else boxpack_CheckTable.l0 k tb tb (tb.length : Int) ((p.length : Int) + 1) n.f0 n.f1 n.f2 kf its) (least_ev its hn hb hk hi ht) ?_
      rw [ckGo]
      by_cases hv : v < needV n kf its tb (sz n p.length)
      · simp only [if_pos hv]
        exact Ev.now _
      · simp only [if_neg hv]
        rw [show (p ++ [v]).length = p.length + 1 by simp] at ih
        exact ih
theorem ckf_ev (n : S23) (kf : Int) (its : List S56) (tb : List Int) : Ev (fun k => boxpack_CheckTable.f k n.f0 n.f1 n.f2 kf its tb) (if chk n kf its = 0 then ckT n kf its tb else (0, chk n kf its)) := by
  unfold boxpack_CheckTable.f
  refine Ev.bind (f := fun k t175 => if t175 = 0 then ((boxpack_Problem_count.f n.f0 n.f1 n.f2 kf its).bind fun t176 => (if (tb.length : Int) = t176 then ((slices_ContainsFunc_int64_int64_by_boxpack_CheckTable_1.f k tb).bind fun t177 => (boxpack_CheckTable.j0 k tb t177 n.f0 n.f1 n.f2 kf its)) else (boxpack_CheckTable.j0 k tb true n.f0 n.f1 n.f2 kf its))) else (some (0, t175))) (check_ev n kf its) ?_
  by_cases hc : chk n kf its = 0
  · obtain ⟨hn, hk, hi, _⟩ := chk_ok hc
    simp only [if_pos hc]
    have cn := cnt_le hn
    rw [count_eq hn]
    simp only [Option.bind_some]
    unfold ckT
    by_cases hl : (tb.length : Int) = cnt n
    · simp only [if_pos hl]
      refine Ev.bind (f := fun k t177 => boxpack_CheckTable.j0 k tb t177 n.f0 n.f1 n.f2 kf its) (bad_ev tb (by omega)) ?_
      refine Ev.step (f := fun k => if tb.any badV = true then some (0, 1) else boxpack_CheckTable.l0 k tb tb (tb.length : Int) 0 n.f0 n.f1 n.f2 kf its) (fun k => rfl) ?_
      cases tb.any badV
      · exact ckl_ev hn hk (by omega) tb hl tb [] rfl
      · exact Ev.now _
    · simp only [if_neg hl]
      exact Ev.const1 (fun k => rfl)
  · simp only [if_neg hc]
    exact Ev.now _
def bnd (n : S23) (kf : Int) (its : List S56) (tb : List Int) : Int × Int := if chk n kf its = 0 then (if (ckT n kf its tb).2 = 0 then (rd tb ((tb.length : Int) - 1), 0) else (0, (ckT n kf its tb).2)) else (0, chk n kf its)
theorem ckT_len {n : S23} {kf : Int} {its : List S56} {tb : List Int} (h : (ckT n kf its tb).2 = 0) : (tb.length : Int) = cnt n ∧ tb.any badV = false ∧ ckT n kf its tb = ckGo n kf its tb tb 0 := by
  unfold ckT at h ⊢
  by_cases hl : (tb.length : Int) = cnt n
  · rw [if_pos hl] at h ⊢
    cases hb : tb.any badV <;> rw [hb] at h
    · exact ⟨hl, rfl, rfl⟩
    · simp at h
  · rw [if_neg hl] at h
    simp at h
theorem bnd_ev (n : S23) (kf : Int) (its : List S56) (tb : List Int) : Ev (fun k => boxpack_Bound.f k n.f0 n.f1 n.f2 kf its tb) (bnd n kf its tb) := by
  unfold boxpack_Bound.f bnd
  refine Ev.bind (f := fun _ bt184 => (if bt184.2 = 0 then (if 0 ≤ (wrap64 ((tb.length : Int) - 1)) then (if (wrap64 ((tb.length : Int) - 1)) < (tb.length : Int) then (some (rd tb (wrap64 ((tb.length : Int) - 1)), 0)) else (none)) else (none)) else (some (0, bt184.2)))) (ckf_ev n kf its tb) ?_
  by_cases hc : chk n kf its = 0
  · simp only [if_pos hc]
    obtain ⟨hn, hk, hi, _⟩ := chk_ok hc
    have cn := cnt_le hn
    by_cases h2 : (ckT n kf its tb).2 = 0
    · have hl := (ckT_len h2).1
      simp only [if_pos h2]
      rw [wr (x := (tb.length : Int) - 1) (by omega), if_pos (by omega), if_pos (by omega)]
      exact Ev.now _
    · simp only [if_neg h2]
      exact Ev.now _
  · simp only [if_neg hc]
    exact Ev.now _
theorem mx_le {a b v : Int} : mx a b ≤ v ↔ a ≤ v ∧ b ≤ v := by unfold mx; by_cases h : a < b <;> simp [h] <;> omega
theorem items_le (s : S23) : ∀ (its : List S56) (u v : Int), itemsV s its u ≤ v ↔ u ≤ v ∧ ∀ x ∈ its, fitsB x.f1 s = true → x.f2 ≤ v
  | [], u, v => by simp [itemsV]
  | x :: q, u, v => by
    have ih := items_le s q (if fitsB x.f1 s = true then mx u x.f2 else u) v
    show itemsV s q (if fitsB x.f1 s = true then mx u x.f2 else u) ≤ v ↔ _
    rw [ih]
    simp only [List.mem_cons, forall_eq_or_imp]
    cases h : fitsB x.f1 s
    · simp
    · simp only [if_true, mx_le, true_imp_iff]
      exact ⟨fun h => ⟨h.1.1, h.1.2, h.2⟩, fun h => ⟨⟨h.1, h.2.1⟩, h.2.2⟩⟩
theorem cuts_le (g : Ct → Int) : ∀ (l : List Ct) (u v : Int), l.foldl (fun v c => mx v (g c)) u ≤ v ↔ u ≤ v ∧ ∀ c ∈ l, g c ≤ v
  | [], u, v => by simp
  | x :: q, u, v => by
    rw [List.foldl_cons, cuts_le g q]
    simp only [List.mem_cons, forall_eq_or_imp, mx_le]
    exact ⟨fun h => ⟨h.1.1, h.1.2, h.2⟩, fun h => ⟨⟨h.1, h.2.1⟩, h.2.2⟩⟩
theorem need_le {n : S23} {kf : Int} {its : List S56} {tb : List Int} {s : S23} {v : Int} : needV n kf its tb s ≤ v ↔ 0 ≤ v ∧ (∀ x ∈ its, fitsB x.f1 s = true → x.f2 ≤ v) ∧ ∀ c ∈ cutsL kf s, both n.f0 n.f1 tb c ≤ v := by
  unfold needV
  rw [cuts_le, items_le, and_assoc]
theorem both_eq {n : S23} (hn : okN n) {kf : Int} (hk : 0 ≤ kf) {s : S23} (hs : inB n s) (tb : List Int) {c : Ct} (hc : c ∈ cutsL kf s) : both n.f0 n.f1 tb c = wrap64 (rd tb (ix n c.l) + rd tb (ix n c.r)) := by
  obtain ⟨⟨hl, _⟩, hr, _⟩ := cut_in hn hs hk hc
  unfold both
  rw [ixS_eq hn hl, ixS_eq hn hr]
theorem rd_set (tb : List Int) (i : Nat) (v : Int) (j : Int) (h0 : 0 ≤ j) (hi : i < tb.length) : rd (tb.set i v) j = if j = (i : Int) then v else rd tb j := by
  unfold rd
  rw [List.getD_eq_getElem?_getD, List.getElem?_set]
  by_cases h : j = (i : Int)
  · rw [if_pos (by omega), if_pos hi, if_pos h]; rfl
  · rw [if_neg (by omega), if_neg h, List.getD_eq_getElem?_getD]
theorem itOk_v {its : List S56} (h : its.all itOk = true) {x : S56} (hx : x ∈ its) : (inB ⟨24, 24, 24⟩ x.f1) ∧ 0 ≤ x.f2 ∧ x.f2 ≤ 1000000000 := by
  have := List.all_eq_true.1 h x hx
  unfold itOk at this
  simp only [Bool.and_eq_true, decide_eq_true_eq] at this
  exact ⟨pos3_ok this.1, this.2⟩
def goodT (n : S23) (kf : Int) (its : List S56) (tb : List Int) : Prop := (tb.length : Int) = cnt n ∧ (∀ j : Int, 0 ≤ j → j < cnt n → 0 ≤ rd tb j ∧ rd tb j ≤ 100000000000000) ∧ ∀ s, inB n s → needV n kf its tb s ≤ rd tb (ix n s)
theorem any_rd {tb : List Int} {P : Int → Bool} : tb.any P = false ↔ ∀ j : Int, 0 ≤ j → j < (tb.length : Int) → P (rd tb j) = false := by
  rw [List.any_eq_false]
  constructor
  · intro h j h0 h1
    have hl : j.toNat < tb.length := by omega
    have e : rd tb j = tb[j.toNat] := by unfold rd; rw [List.getD_eq_getElem?_getD, List.getElem?_eq_getElem hl]; rfl
    rw [e]
    exact Bool.eq_false_iff.2 (h _ (List.getElem_mem hl))
  · intro h x hx
    obtain ⟨i, hi, rfl⟩ := List.getElem_of_mem hx
    have := h (i : Int) (by omega) (by omega)
    unfold rd at this
    rw [Int.toNat_natCast, List.getD_eq_getElem?_getD, List.getElem?_eq_getElem hi] at this
    exact Bool.eq_false_iff.1 this
theorem badV_iff {v : Int} : badV v = false ↔ 0 ≤ v ∧ v ≤ 100000000000000 := by
  unfold badV
  rw [Bool.or_eq_false_iff, decide_eq_false_iff_not, decide_eq_false_iff_not]
  omega
theorem ckGo_spec (n : S23) (kf : Int) (its : List S56) (tb : List Int) : ∀ (s p : List Int), p ++ s = tb → (ckGo n kf its tb s p.length = ((tb.length : Int), 0) ∧ ∀ j : Int, (p.length : Int) ≤ j → j < (tb.length : Int) → needV n kf its tb (sz n j) ≤ rd tb j) ∨
    ∃ i : Int, ckGo n kf its tb s p.length = (i, 10) ∧ (p.length : Int) ≤ i ∧ i < (tb.length : Int) ∧ rd tb i < needV n kf its tb (sz n i) ∧ ∀ j : Int, (p.length : Int) ≤ j → j < i → needV n kf its tb (sz n j) ≤ rd tb j
  | [], p, hp => by
    refine Or.inl ⟨rfl, fun j h0 h1 => absurd h1 ?_⟩
    have : tb.length = p.length := by rw [← hp]; simp
    omega
  | v :: s, p, hp => by
    have h2 : (p.length : Int) < (tb.length : Int) := by rw [← hp]; exact len_app p s v
    have hx : rd tb (p.length : Int) = v := by rw [← hp]; exact rd_app p s v
    have ih := ckGo_spec n kf its tb s (p ++ [v]) (by rw [← hp]; simp)
    rw [show (p ++ [v]).length = p.length + 1 by simp] at ih
    rw [ckGo]
    by_cases hv : v < needV n kf its tb (sz n p.length)
    · rw [if_pos hv]
      exact Or.inr ⟨_, rfl, Int.le_refl _, h2, by rw [hx]; exact hv, fun j a b => absurd a (by omega)⟩
    · rw [if_neg hv]
      have hj : ∀ j : Int, (p.length : Int) ≤ j → ¬ ((p.length + 1 : Nat) : Int) ≤ j → needV n kf its tb (sz n j) ≤ rd tb j := fun j a b => by
        have : j = (p.length : Int) := by omega
        rw [this, hx]
        omega
      rcases ih with ⟨e, h⟩ | ⟨i, e, h0, h1, h3, h4⟩
      · refine Or.inl ⟨e, fun j a b => ?_⟩
        by_cases c : ((p.length + 1 : Nat) : Int) ≤ j
        · exact h j c b
        · exact hj j a c
      · refine Or.inr ⟨i, e, by omega, h1, h3, fun j a b => ?_⟩
        by_cases c : ((p.length + 1 : Nat) : Int) ≤ j
        · exact h4 j c b
        · exact hj j a c
theorem ckT_good {n : S23} {kf : Int} {its : List S56} {tb : List Int} (h : (ckT n kf its tb).2 = 0) : goodT n kf its tb ∧ ckT n kf its tb = ((tb.length : Int), 0) := by
  obtain ⟨hl, hb, e⟩ := ckT_len h
  rw [e] at h ⊢
  rcases ckGo_spec n kf its tb tb [] rfl with ⟨e', hn⟩ | ⟨i, e', _⟩
  · refine ⟨⟨hl, fun j h0 h1 => badV_iff.1 (any_rd.1 hb j h0 (by omega)), fun s hs => ?_⟩, e'⟩
    have := hn (ix n s) (by have := (ix_lt hs).1; simpa using this) (by rw [hl]; exact (ix_lt hs).2)
    rw [sz_ix hs] at this
    exact this
  · rw [show ckGo n kf its tb tb 0 = (i, 10) from e'] at h
    exact absurd (show (10 : Int) = 0 from h) (by decide)
def okLeaf (n : S61) : Bool := decide (0 ≤ n.f0 ∧ n.f0 ≤ 2) && decide (n.f2 = 0 ∧ n.f3 = 0 ∧ n.f4 = 0 ∧ n.f5 = 0 ∧ n.f6 = 0) && (decide (n.f0 ≠ 0) || decide (n.f1.toList = []))
def okCut (N i : Int) (n : S61) : Bool := decide (n.f0 = 3 ∧ (0 ≤ n.f2 ∧ n.f2 ≤ 2) ∧ n.f1.toList = [] ∧ n.f5 ≠ n.f6 ∧ (i < n.f5 ∧ n.f5 < N) ∧ (i < n.f6 ∧ n.f6 < N))
def bump (u : List Int) (k : Int) : List Int := u.set k.toNat (wrap64 (rd u k + 1))
def fmF (N : Int) : List S61 → Int → List Int → Option (List Int)
  | [], _, u => some u
  | n :: ns, i, u => if okLeaf n = true then fmF N ns (i + 1) u else if okCut N i n = true then fmF N ns (i + 1) (bump (bump u n.f5) n.f6) else none
def finB (u : List Int) : Bool := (u.drop 1).all (fun v => v == 1)
def fmR (N : Int) (s : List S61) (i : Int) (u : List Int) : Bool := match fmF N s i u with
  | none => false
  | some u' => finB u'
def formB (l : List S61) : Bool := !l.isEmpty && fmR l.length l 0 (List.replicate l.length 0)
theorem bump_len (u : List Int) (k : Int) : (bump u k).length = u.length := by unfold bump; rw [List.length_set]
theorem not1_ev (u : List Int) (hl : u.length < 1000000) : Ev (fun k => slices_ContainsFunc_int_int_by_boxpack_plan_1.f k u) (!u.all (fun v => v == 1)) := by
  rw [← any_not_all]
  exact ix_any (fun k xs n i => slices_IndexFunc_int_int_by_boxpack_plan_1.l0 k xs n i) (fun _ x => boxpack_plan_1.f x) rd rd_app (fun _ _ _ _ => rfl) (fun x => !(x == 1)) u (fun x _ => Ev.const fun _ => rfl) hl
theorem leaf_iff {n : S61} : okLeaf n = true ↔ (0 ≤ n.f0 ∧ n.f0 ≤ 2) ∧ (n.f2 = 0 ∧ n.f3 = 0 ∧ n.f4 = 0 ∧ n.f5 = 0 ∧ n.f6 = 0) ∧ (n.f0 = 0 → n.f1.toList = []) := by
  unfold okLeaf
  simp only [Bool.and_eq_true, Bool.or_eq_true, decide_eq_true_eq]
  constructor
  · rintro ⟨⟨a, b⟩, c⟩
    exact ⟨a, b, fun h => c.resolve_left (fun hh => hh h)⟩
  · rintro ⟨a, b, c⟩
    exact ⟨⟨a, b⟩, (Decidable.em (n.f0 = 0)).elim (fun h => Or.inr (c h)) Or.inl⟩
theorem cut_iff {N i : Int} {n : S61} : okCut N i n = true ↔ n.f0 = 3 ∧ (0 ≤ n.f2 ∧ n.f2 ≤ 2) ∧ n.f1.toList = [] ∧ n.f5 ≠ n.f6 ∧ (i < n.f5 ∧ n.f5 < N) ∧ (i < n.f6 ∧ n.f6 < N) := by
  unfold okCut
  rw [decide_eq_true_eq]
theorem fmR_cons (N : Int) (n : S61) (ns : List S61) (i : Int) (u : List Int) : fmR N (n :: ns) i u = if okLeaf n = true then fmR N ns (i + 1) u else if okCut N i n = true then fmR N ns (i + 1) (bump (bump u n.f5) n.f6) else false := by
  unfold fmR
  rw [fmF]
  by_cases a : okLeaf n = true
  · rw [if_pos a, if_pos a]
  · rw [if_neg a, if_neg a]
    by_cases b : okCut N i n = true
    · rw [if_pos b, if_pos b]
    · rw [if_neg b, if_neg b]
theorem plan1_ev (l : List S61) (i : Int) (h0 : 0 ≤ i) (n : S61) (u : List Int) (hu : u.length = l.length) (R : Bool) (hne : n.f5 ≠ n.f6)
    (hR : (i < n.f5 ∧ n.f5 < (l.length : Int)) → (i < n.f6 ∧ n.f6 < (l.length : Int)) → Ev (fun k => boxpack_plan.l0 k l (bump (bump u n.f5) n.f6) l (l.length : Int) (wrap64 (i + 1))) R) :
    Ev (fun k => boxpack_plan.l1 k l u i l (l.length : Int) i 0 n.f5 n.f6) (decide ((i < n.f5 ∧ n.f5 < (l.length : Int)) ∧ (i < n.f6 ∧ n.f6 < (l.length : Int))) && R) := by
  by_cases a : i < n.f5 ∧ n.f5 < (l.length : Int)
  · refine Ev.step (f := fun k => boxpack_plan.l1 k l (bump u n.f5) i l (l.length : Int) i 1 n.f5 n.f6) (fun k => ?_) ?_
    · rw [boxpack_plan.l1, if_pos (by decide), if_pos rfl, if_neg (by omega), if_neg (by omega), if_pos (by omega), if_pos (by omega)]
      rfl
    · by_cases b : i < n.f6 ∧ n.f6 < (l.length : Int)
      · refine Ev.step (f := fun k => boxpack_plan.l1 k l (bump (bump u n.f5) n.f6) i l (l.length : Int) i 2 n.f5 n.f6) (fun k => ?_) ?_
        · rw [boxpack_plan.l1, if_pos (by decide), if_neg (by decide), if_pos rfl, if_neg (by omega), if_neg (by omega), if_pos (by omega), if_pos (by rw [bump_len]; omega)]
          rfl
        · refine Ev.step (f := fun k => boxpack_plan.l0 k l (bump (bump u n.f5) n.f6) l (l.length : Int) (wrap64 (i + 1))) (fun k => ?_) ?_
          · rw [boxpack_plan.l1, if_neg (by decide)]
          · rw [decide_eq_true (And.intro a b), Bool.true_and]
            exact hR a b
      · rw [decide_eq_false (fun h => b h.2), Bool.false_and]
        refine Ev.const1 (fun k => ?_)
        rw [boxpack_plan.l1, if_pos (by decide), if_neg (by decide), if_pos rfl]
        by_cases c : n.f6 ≤ i
        · rw [if_pos c]
        · rw [if_neg c, if_pos (by omega)]
  · rw [decide_eq_false (fun h => a h.1), Bool.false_and]
    refine Ev.const1 (fun k => ?_)
    rw [boxpack_plan.l1, if_pos (by decide), if_pos rfl]
    by_cases c : n.f5 ≤ i
    · rw [if_pos c]
    · rw [if_neg c, if_pos (by omega)]
theorem planl_ev (l : List S61) (hl : l.length < 1000000) : ∀ (s p : List S61) (u : List Int), p ++ s = l → u.length = l.length → Ev (fun k => boxpack_plan.l0 k l u l (l.length : Int) (p.length : Int)) (!l.isEmpty && fmR l.length s p.length u)
  | [], p, u, hp, hu => by
    refine Ev.step (f := fun k => if (l.length : Int) > 0 then (if 1 ≤ (u.length : Int) then ((slices_ContainsFunc_int_int_by_boxpack_plan_1.f k (u.drop 1)).bind fun t135 => (some (!t135))) else (none)) else (some false)) (fun k => ?_) ?_
    · rw [boxpack_plan.l0, if_neg (by rw [← hp]; simp)]
    · cases l with
      | nil => exact Ev.now _
      | cons x l =>
        simp only [if_pos (show ((x :: l).length : Int) > 0 by rw [List.length_cons]; omega), if_pos (show 1 ≤ (u.length : Int) by rw [hu, List.length_cons]; omega)]
        refine Ev.bind (f := fun _ t135 => some (!t135)) (not1_ev (u.drop 1) (by simp; omega)) ?_
        rw [Bool.not_not]
        exact Ev.now _
  | n :: s, p, u, hp, hu => by
    have h2 : (p.length : Int) < (l.length : Int) := by rw [← hp]; exact len_app p s n
    have hx : rd_T61 l (p.length : Int) = n := by rw [← hp]; exact rd61_app p s n
    have hw : wrap64 ((p.length : Int) + 1) = (p.length : Int) + 1 := wrn _ (by omega)
    have ih := fun u hu => planl_ev l hl s (p ++ [n]) u (by rw [← hp]; simp) hu
    simp only [len_snoc] at ih
    have he : l.isEmpty = false := by rw [← hp]; simp
    rw [he] at ih ⊢
    simp only [Bool.not_false, Bool.true_and] at ih ⊢
    have hlf : (0 ≤ n.f0 ∧ n.f0 ≤ 2) → Ev (fun k => boxpack_plan.j1 k l u (p.length : Int) l (l.length : Int) (p.length : Int) n.f0 true n.f0 n.f1 n.f2 n.f3 n.f4 n.f5 n.f6) (fmR l.length (n :: s) p.length u) := by
      intro h02
      rw [fmR_cons]
      by_cases a : okLeaf n = true
      · rw [if_pos a]
        obtain ⟨_, ⟨e2, e3, e4, e5, e6⟩, e1⟩ := leaf_iff.1 a
        refine Ev.step (f := fun k => boxpack_plan.l0 k l u l (l.length : Int) ((p.length : Int) + 1)) (fun k => ?_) (ih u hu)
        rw [boxpack_plan.j1, if_pos rfl, if_pos e2, if_pos e3, if_pos e4, if_pos e5, if_pos e6, hw]
        by_cases e0 : n.f0 = 0
        · rw [if_pos e0, if_pos (e1 e0)]
        · rw [if_neg e0]
      · rw [if_neg a, if_neg (fun hh => by have := (cut_iff.1 hh).1; omega)]
        refine Ev.const1 (fun k => ?_)
        rw [boxpack_plan.j1, if_pos rfl]
        by_cases e2 : n.f2 = 0
        · rw [if_pos e2]
          by_cases e3 : n.f3 = 0
          · rw [if_pos e3]
            by_cases e4 : n.f4 = 0
            · rw [if_pos e4]
              by_cases e5 : n.f5 = 0
              · rw [if_pos e5]
                by_cases e6 : n.f6 = 0
                · rw [if_pos e6]
                  by_cases e0 : n.f0 = 0
                  · rw [if_pos e0]
                    by_cases e1 : n.f1.toList = []
                    · exact absurd (leaf_iff.2 ⟨h02, ⟨e2, e3, e4, e5, e6⟩, fun _ => e1⟩) a
                    · rw [if_neg e1]
                  · exact absurd (leaf_iff.2 ⟨h02, ⟨e2, e3, e4, e5, e6⟩, fun h => absurd h e0⟩) a
                · rw [if_neg e6]
              · rw [if_neg e5]
            · rw [if_neg e4]
          · rw [if_neg e3]
        · rw [if_neg e2]
    have hst : ∀ k, boxpack_plan.l0 (k + 1) l u l (l.length : Int) (p.length : Int) = boxpack_plan.j1 k l u (p.length : Int) l (l.length : Int) (p.length : Int) n.f0 (decide (0 ≤ n.f0 ∧ n.f0 ≤ 2)) n.f0 n.f1 n.f2 n.f3 n.f4 n.f5 n.f6 := by
      intro k
      rw [boxpack_plan.l0, if_pos h2, if_pos (by omega), if_pos h2, hx]
      by_cases e0 : n.f0 = 0
      · rw [if_pos e0, e0]; rfl
      · rw [if_neg e0]
        by_cases e1 : n.f0 = 1
        · rw [if_pos e1, e1]; rfl
        · rw [if_neg e1]
          congr 1
          rw [Bool.eq_iff_iff, beq_iff_eq, decide_eq_true_eq]
          omega
    refine Ev.step (f := fun k => boxpack_plan.j1 k l u (p.length : Int) l (l.length : Int) (p.length : Int) n.f0 (decide (0 ≤ n.f0 ∧ n.f0 ≤ 2)) n.f0 n.f1 n.f2 n.f3 n.f4 n.f5 n.f6) hst ?_
    by_cases h02 : 0 ≤ n.f0 ∧ n.f0 ≤ 2
    · rw [decide_eq_true h02]
      exact hlf h02
    · rw [decide_eq_false h02, fmR_cons, if_neg (fun hh => h02 (leaf_iff.1 hh).1)]
      by_cases h3 : n.f0 = 3
      · have hj2 : ∀ b : Bool, (b = false → n.f5 ≠ n.f6) → Ev (fun k => boxpack_plan.j2 k l u (p.length : Int) l (l.length : Int) (p.length : Int) b n.f0 n.f1 n.f2 n.f3 n.f4 n.f5 n.f6) (!b && (decide (((p.length : Int) < n.f5 ∧ n.f5 < (l.length : Int)) ∧ ((p.length : Int) < n.f6 ∧ n.f6 < (l.length : Int))) && fmR l.length s (p.length + 1) (bump (bump u n.f5) n.f6))) := by
          intro b hb
          refine Ev.step (f := fun k => if b = true then some false else boxpack_plan.l1 k l u (p.length : Int) l (l.length : Int) (p.length : Int) 0 n.f5 n.f6) (fun k => rfl) ?_
          cases b
          · exact plan1_ev l _ (by omega) n u hu _ (hb rfl) (fun _ _ => by rw [hw]; exact ih _ (by rw [bump_len, bump_len, hu]))
          · exact Ev.now _
        have hsp : ∀ b : Bool, (b = false ↔ (0 ≤ n.f2 ∧ n.f2 ≤ 2) ∧ n.f1.toList = [] ∧ n.f5 ≠ n.f6) → (!b && (decide (((p.length : Int) < n.f5 ∧ n.f5 < (l.length : Int)) ∧ ((p.length : Int) < n.f6 ∧ n.f6 < (l.length : Int))) && fmR l.length s (p.length + 1) (bump (bump u n.f5) n.f6))) = (if okCut l.length p.length n = true then fmR l.length s (p.length + 1) (bump (bump u n.f5) n.f6) else false) := by
          intro b hb
          by_cases hc : okCut l.length p.length n = true
          · obtain ⟨_, a1, a2, a3, a4⟩ := cut_iff.1 hc
            rw [if_pos hc, hb.2 ⟨a1, a2, a3⟩, decide_eq_true a4]
            rfl
          · rw [if_neg hc]
            cases b
            · rw [decide_eq_false (fun hh => hc (cut_iff.2 ⟨h3, (hb.1 rfl).1, (hb.1 rfl).2.1, (hb.1 rfl).2.2, hh⟩))]
              rfl
            · rfl
        by_cases a0 : n.f2 < 0
        · rw [← hsp true (by simp; omega)]
          refine Ev.step (fun k => ?_) (hj2 true (by simp))
          rw [boxpack_plan.j1, if_neg (by decide), if_pos h3, if_pos a0]
        · by_cases a2 : n.f2 > 2
          · rw [← hsp true (by simp; omega)]
            refine Ev.step (fun k => ?_) (hj2 true (by simp))
            rw [boxpack_plan.j1, if_neg (by decide), if_pos h3, if_neg a0, if_pos a2]
          · by_cases a1 : n.f1.toList = []
            · rw [← hsp (n.f5 == n.f6) (by rw [beq_eq_false_iff_ne]; exact ⟨fun h => ⟨by omega, a1, h⟩, fun h => h.2.2⟩)]
              refine Ev.step (fun k => ?_) (hj2 (n.f5 == n.f6) (fun h => beq_eq_false_iff_ne.1 h))
              rw [boxpack_plan.j1, if_neg (by decide), if_pos h3, if_neg a0, if_neg a2, if_pos a1]
            · rw [← hsp true ⟨fun h => absurd h (by decide), fun h => absurd h.2.1 a1⟩]
              refine Ev.step (fun k => ?_) (hj2 true (by simp))
              rw [boxpack_plan.j1, if_neg (by decide), if_pos h3, if_neg a0, if_neg a2, if_neg a1]
      · rw [if_neg (fun hh => h3 (cut_iff.1 hh).1)]
        refine Ev.const1 (fun k => ?_)
        rw [boxpack_plan.j1, if_neg (by decide), if_neg h3]
theorem plan_ev (l : List S61) (hl : l.length < 1000000) : Ev (fun k => boxpack_plan.f k l) (formB l) := by
  refine Ev.congr (f := fun k => boxpack_plan.l0 k l (List.replicate l.length 0) l (l.length : Int) 0) (fun k => ?_) (planl_ev l hl l [] _ rfl (by simp))
  show boxpack_plan.f k l = _
  unfold boxpack_plan.f
  rw [if_pos (by omega), if_pos (by omega), Int.toNat_natCast]

theorem rd23_set (ps : List S23) (k : Nat) (p : S23) (x : Int) (hk : k < ps.length) : rd_T23 (ps.set k p) x = if x.toNat = k then p else rd_T23 ps x := by
  unfold rd_T23
  rw [List.getD_eq_getElem?_getD, List.getElem?_set]
  by_cases h : k = x.toNat
  · rw [if_pos h, if_pos (by omega), if_pos h.symm]; rfl
  · rw [if_neg h, if_neg (fun hh => h hh.symm), List.getD_eq_getElem?_getD]
def PB (p b : S23) : Prop := (0 ≤ p.f0 ∧ 0 ≤ b.f0 ∧ p.f0 + b.f0 ≤ 24) ∧ (0 ≤ p.f1 ∧ 0 ≤ b.f1 ∧ p.f1 + b.f1 ≤ 24) ∧ (0 ≤ p.f2 ∧ 0 ≤ b.f2 ∧ p.f2 + b.f2 ≤ 24)
theorem PB.ax {p b : S23} (h : PB p b) {ax : Int} (ha : 0 ≤ ax ∧ ax ≤ 2) : 0 ≤ getAx p ax ∧ 0 ≤ getAx b ax ∧ getAx p ax + getAx b ax ≤ 24 := by
  unfold PB at h
  have h1 : ax = 0 ∨ ax = 1 ∨ ax = 2 := by omega
  rcases h1 with rfl | rfl | rfl
  · exact h.1
  · exact h.2.1
  · exact h.2.2
theorem PB.set {p b : S23} (h : PB p b) {ax v w : Int} (ha : 0 ≤ ax ∧ ax ≤ 2) (hv : 0 ≤ v) (hw : 0 ≤ w) (hvw : v + w ≤ 24) : PB (setAx p ax v) (setAx b ax w) := by
  unfold PB at h ⊢
  have h1 : ax = 0 ∨ ax = 1 ∨ ax = 2 := by omega
  rcases h1 with rfl | rfl | rfl
  · exact ⟨⟨hv, hw, hvw⟩, h.2⟩
  · exact ⟨h.1, ⟨hv, hw, hvw⟩, h.2.2⟩
  · exact ⟨h.1, h.2.1, ⟨hv, hw, hvw⟩⟩
theorem set_get (s : S23) (ax : Int) : setAx s ax (getAx s ax) = s := by
  unfold setAx getAx
  by_cases a : ax = 0
  · rw [if_pos a, if_pos a]
  · rw [if_neg a, if_neg a]
    by_cases b : ax = 1
    · rw [if_pos b, if_pos b]
    · rw [if_neg b, if_neg b]
def PBs (ps bs : List S23) : Prop := ∀ x : Int, PB (rd_T23 ps x) (rd_T23 bs x)
theorem PBs.set {ps bs : List S23} (h : PBs ps bs) (hl : ps.length = bs.length) {k : Nat} (hk : k < ps.length) {p b : S23} (hp : PB p b) : PBs (ps.set k p) (bs.set k b) := fun x => by
  rw [rd23_set ps k p x hk, rd23_set bs k b x (by omega)]
  by_cases e : x.toNat = k
  · rw [if_pos e, if_pos e]; exact hp
  · rw [if_neg e, if_neg e]; exact h x
def cutP (kf : Int) (n : S61) (i : Int) (ps bs : List S23) : List S23 :=
  (ps.set n.f5.toNat (setAx (rd_T23 ps i) n.f2 (n.f3 - getAx (rd_T23 bs i) n.f2))).set n.f6.toNat (setAx (rd_T23 ps i) n.f2 (getAx (rd_T23 ps i) n.f2 - (n.f3 - getAx (rd_T23 bs i) n.f2) - kf))
def cutB (kf : Int) (n : S61) (i : Int) (bs : List S23) : List S23 := (bs.set n.f5.toNat (rd_T23 bs i)).set n.f6.toNat (setAx (rd_T23 bs i) n.f2 (n.f3 + kf))
def cutIn (kf : Int) (n : S61) (p b : S23) : Prop := n.f4 = kf ∧ getAx b n.f2 < n.f3 ∧ n.f3 + kf < getAx b n.f2 + getAx p n.f2
instance (kf : Int) (n : S61) (p b : S23) : Decidable (cutIn kf n p b) := by unfold cutIn; infer_instance
theorem valF_nil (kf : Int) (its : List S56) (i : Nat) (ps bs : List S23) (t : Int) : valF kf its [] i ps bs t = some (t, 0) := rfl
theorem valF_prod {kf : Int} {its : List S56} {n : S61} {ns : List S61} {i : Nat} {ps bs : List S23} {t : Int} (h : n.f0 = 1) : valF kf its (n :: ns) i ps bs t = if itemIx its n.f1 0 < 0 then some (0, 3)
      else if fitsB (rd_T56 its (itemIx its n.f1 0)).f1 (rd_T23 ps i) = true then valF kf its ns (i + 1) ps bs (wrap64 (t + (rd_T56 its (itemIx its n.f1 0)).f2)) else some (0, 12) := by
  rw [valF, if_pos h]
theorem valF_other {kf : Int} {its : List S56} {n : S61} {ns : List S61} {i : Nat} {ps bs : List S23} {t : Int} (h : n.f0 ≠ 1) (h3 : n.f0 ≠ 3) : valF kf its (n :: ns) i ps bs t = valF kf its ns (i + 1) ps bs t := by
  rw [valF, if_neg h, if_neg h3]
theorem valF_cut {kf : Int} {its : List S56} {n : S61} {ns : List S61} {i : Nat} {ps bs : List S23} {t : Int} (hk : 0 ≤ kf ∧ kf ≤ 24) (hp : PB (rd_T23 ps i) (rd_T23 bs i)) (hc : okCut ps.length i n = true) :
    valF kf its (n :: ns) i ps bs t = if cutIn kf n (rd_T23 ps i) (rd_T23 bs i) then valF kf its ns (i + 1) (cutP kf n i ps bs) (cutB kf n i bs) t else some (0, 6) := by
  obtain ⟨h3, ha, _, _, h5, h6⟩ := cut_iff.1 hc
  have hx := hp.ax ha
  rw [valF, if_neg (by omega), if_pos h3, if_pos ⟨ha, by omega, by omega⟩]
  by_cases hin : cutIn kf n (rd_T23 ps i) (rd_T23 bs i)
  · rw [if_pos hin]
    unfold cutIn at hin
    rw [if_pos ⟨hin.1, by omega, by rw [wr (x := getAx (rd_T23 bs i) n.f2 + getAx (rd_T23 ps i) n.f2) (by omega), wr (by omega)]; omega⟩]
    rw [wr (x := n.f3 - getAx (rd_T23 bs i) n.f2) (by omega), wr (x := getAx (rd_T23 ps i) n.f2 - (n.f3 - getAx (rd_T23 bs i) n.f2)) (by omega), wr (x := getAx (rd_T23 ps i) n.f2 - (n.f3 - getAx (rd_T23 bs i) n.f2) - kf) (by omega),
      wr (x := n.f3 - getAx (rd_T23 bs i) n.f2 + kf) (by omega), wr (by omega), show getAx (rd_T23 bs i) n.f2 + (n.f3 - getAx (rd_T23 bs i) n.f2 + kf) = n.f3 + kf by omega]
    rfl
  · rw [if_neg hin]
    unfold cutIn at hin
    rw [if_neg]
    rintro ⟨a, b, c⟩
    rw [wr (x := getAx (rd_T23 bs i) n.f2 + getAx (rd_T23 ps i) n.f2) (by omega), wr (by omega)] at c
    exact hin ⟨a, by omega, by omega⟩
theorem cut_len (kf : Int) (n : S61) (i : Int) (ps bs : List S23) : (cutP kf n i ps bs).length = ps.length ∧ (cutB kf n i bs).length = bs.length := by
  unfold cutP cutB
  simp
theorem cut_PBs {kf : Int} (hk : 0 ≤ kf) {n : S61} {i : Int} {ps bs : List S23} (hl : ps.length = bs.length) (h : PBs ps bs) (hc : okCut ps.length i n = true) (h0 : 0 ≤ i) (hin : cutIn kf n (rd_T23 ps i) (rd_T23 bs i)) : PBs (cutP kf n i ps bs) (cutB kf n i bs) := by
  obtain ⟨h3, ha, _, _, h5, h6⟩ := cut_iff.1 hc
  have hx := (h i).ax ha
  unfold cutIn at hin
  unfold cutP cutB
  refine PBs.set (PBs.set h hl (by omega) ?_) (by simp [hl]) (by simp; omega) ((h i).set ha (by omega) (by omega) (by omega))
  have := (h i).set ha (v := n.f3 - getAx (rd_T23 bs i) n.f2) (w := getAx (rd_T23 bs i) n.f2) (by omega) (by omega) (by omega)
  rw [set_get] at this
  exact this
theorem valF_some {kf : Int} {its : List S56} (hk : 0 ≤ kf ∧ kf ≤ 24) : ∀ (s : List S61) (i : Nat) (u u' : List Int) (ps bs : List S23) (t : Int), fmF ps.length s i u = some u' → ps.length = bs.length → PBs ps bs → ∃ r, valF kf its s i ps bs t = some r
  | [], i, u, u', ps, bs, t, hf, hl, h => ⟨_, rfl⟩
  | n :: s, i, u, u', ps, bs, t, hf, hl, h => by
    rw [fmF] at hf
    by_cases a : okLeaf n = true
    · rw [if_pos a] at hf
      have ih := fun t => valF_some (its := its) hk s (i + 1) u u' ps bs t hf hl h
      by_cases e1 : n.f0 = 1
      · rw [valF_prod e1]
        by_cases q0 : itemIx its n.f1 0 < 0
        · rw [if_pos q0]; exact ⟨_, rfl⟩
        · rw [if_neg q0]
          by_cases q1 : fitsB (rd_T56 its (itemIx its n.f1 0)).f1 (rd_T23 ps i) = true
          · rw [if_pos q1]; exact ih _
          · rw [if_neg q1]; exact ⟨_, rfl⟩
      · rw [valF_other e1 (by have := (leaf_iff.1 a).1; omega)]
        exact ih t
    · rw [if_neg a] at hf
      by_cases hc : okCut ps.length i n = true
      · rw [if_pos hc] at hf
        have hlen := cut_len kf n i ps bs
        rw [valF_cut hk (h _) hc]
        by_cases hin : cutIn kf n (rd_T23 ps i) (rd_T23 bs i)
        · rw [if_pos hin]
          exact valF_some hk s (i + 1) _ u' _ _ t (by rw [hlen.1]; exact hf) (by rw [hlen.1, hlen.2, hl]) (cut_PBs hk.1 hl h hc (by omega) hin)
        · rw [if_neg hin]; exact ⟨_, rfl⟩
      · rw [if_neg hc] at hf
        exact absurd hf (by simp)

def ps0 (n : S23) (N : Nat) : List S23 := (List.replicate N z23).set 0 n
def valR (n : S23) (kf : Int) (its : List S56) (l : List S61) : Int × Int := if chk n kf its = 0 then (if l.length > 1024 then (0, 7) else if formB l = true then (valF kf its l 0 (ps0 n l.length) (List.replicate l.length z23) 0).getD (0, 0) else (0, 1)) else (0, chk n kf its)
theorem form_some {l : List S61} (h : formB l = true) : 0 < l.length ∧ ∃ u, fmF l.length l 0 (List.replicate l.length 0) = some u ∧ finB u = true := by
  unfold formB fmR at h
  rw [Bool.and_eq_true] at h
  refine ⟨by cases l; simp at h; simp, ?_⟩
  cases hf : fmF l.length l 0 (List.replicate l.length 0)
  · rw [hf] at h; exact absurd h.2 (by simp)
  · rw [hf] at h
    exact ⟨_, rfl, h.2⟩
theorem rd23_rep (N : Nat) (x : Int) : rd_T23 (List.replicate N z23) x = z23 := by
  unfold rd_T23
  rw [List.getD_eq_getElem?_getD, List.getElem?_replicate]
  by_cases h : x.toNat < N <;> simp [h]
theorem PBs0 {n : S23} (hn : okN n) {N : Nat} (hN : 0 < N) : PBs (ps0 n N) (List.replicate N z23) := fun x => by
  unfold ps0
  rw [rd23_set _ _ _ _ (by simp; exact hN), rd23_rep]
  unfold okN at hn
  by_cases e : x.toNat = 0
  · rw [if_pos e]
    refine ⟨⟨?_, ?_, ?_⟩, ⟨?_, ?_, ?_⟩, ?_, ?_, ?_⟩ <;> first | (show (0 : Int) ≤ 0; decide) | (show _ + (0 : Int) ≤ 24; omega) | omega
  · rw [if_neg e]
    unfold PB; decide
theorem val_ex0 {n : S23} {kf : Int} {its : List S56} (hc : chk n kf its = 0) {l : List S61} (hf : formB l = true) : ∃ r, valF kf its l 0 (ps0 n l.length) (List.replicate l.length z23) 0 = some r := by
  obtain ⟨hn, hk, hi, _⟩ := chk_ok hc
  obtain ⟨h0, u, hu, _⟩ := form_some hf
  exact valF_some hk l 0 _ u _ _ 0 (by unfold ps0; rw [List.length_set, List.length_replicate]; exact hu) (by unfold ps0; simp) (PBs0 hn h0)
theorem value_ev (n : S23) (kf : Int) (its : List S56) (l : List S61) : Ev (fun k => boxpack_Value.f k n.f0 n.f1 n.f2 kf its l) (valR n kf its l) := by
  unfold boxpack_Value.f valR
  refine Ev.bind (f := fun k e => if e = 0 then (if its.length < 1000 then (if (l.length : Int) > 1024 then some (0, 7) else (boxpack_plan.f k l).bind fun b => if b = true then (if l.length > 0 then valF kf its l 0 ((List.replicate l.length z23).set 0 ⟨n.f0, n.f1, n.f2⟩) (List.replicate l.length z23) 0 else none) else some (0, 1)) else none) else some (0, e)) (check_ev n kf its) ?_
  by_cases hc : chk n kf its = 0
  · obtain ⟨hn, hk, hi, _⟩ := chk_ok hc
    simp only [if_pos hc, if_pos (show its.length < 1000 by omega)]
    by_cases h1 : l.length > 1024
    · simp only [if_pos h1, if_pos (show (l.length : Int) > 1024 by omega)]
      exact Ev.now _
    · simp only [if_neg h1, if_neg (show ¬ (l.length : Int) > 1024 by omega)]
      refine Ev.bind (f := fun k b => if b = true then (if l.length > 0 then valF kf its l 0 ((List.replicate l.length z23).set 0 ⟨n.f0, n.f1, n.f2⟩) (List.replicate l.length z23) 0 else none) else some (0, 1)) (plan_ev l (by omega)) ?_
      cases hf : formB l
      · exact Ev.now _
      · obtain ⟨r, hr⟩ := val_ex0 hc hf
        rw [hr]
        simp only [if_true, if_pos (form_some hf).1]
        exact Ev.const (fun k => hr)
  · simp only [if_neg hc]
    exact Ev.now _
theorem awk : lw_awake.f 100 = some true := by decide +kernel
theorem awake_ev : Ev (fun k => lw_awake.f k) true := Ev.of (fun k => lw_awake.mono k) awk
theorem bnd_good {n : S23} {kf : Int} {its : List S56} {tb : List Int} (hc : chk n kf its = 0) (h : (ckT n kf its tb).2 = 0) : bnd n kf its tb = (rd tb ((tb.length : Int) - 1), 0) := by unfold bnd; rw [if_pos hc, if_pos h]
theorem bnd_no {n : S23} {kf : Int} {its : List S56} {tb : List Int} (hc : chk n kf its ≠ 0) : bnd n kf its tb = (0, chk n kf its) := by unfold bnd; rw [if_neg hc]
theorem rd_setI (tb : List Int) (at_ v j : Int) (h0 : 0 ≤ at_) (h1 : at_ < (tb.length : Int)) (j0 : 0 ≤ j) : rd (tb.set at_.toNat v) j = if j = at_ then v else rd tb j := by
  rw [rd_set _ _ _ _ j0 (by omega)]
  by_cases e : j = at_
  · rw [if_pos (by omega), if_pos e]
  · rw [if_neg (by omega), if_neg e]
instance (n s : S23) : Decidable (inB n s) := by unfold inB; infer_instance
def gT (n : S23) (tb : List Int) (s : S23) : Int := if inB n s then rd tb (ix n s) else 0
def sumG (g : S23 → Int) (ps : List S23) : Nat → Nat → Int
  | 0, _ => 0
  | m + 1, i => g (rd_T23 ps i) + sumG g ps m (i + 1)
theorem sumG_set (g : S23 → Int) (ps : List S23) (k : Nat) (x : S23) (hk : k < ps.length) : ∀ (m i : Nat), sumG g (ps.set k x) m i = sumG g ps m i + (if i ≤ k ∧ k < i + m then g x - g (rd_T23 ps k) else 0)
  | 0, i => by
    rw [if_neg (by omega)]; rfl
  | m + 1, i => by
    rw [sumG, sumG, sumG_set g ps k x hk m (i + 1), rd23_set ps k x (i : Int) hk]
    by_cases e : i = k
    · rw [if_pos (by omega), if_neg (by omega), if_pos (by omega), e]; omega
    · rw [if_neg (by omega)]
      by_cases h : i + 1 ≤ k ∧ k < i + 1 + m
      · rw [if_pos h, if_pos (by omega)]; omega
      · rw [if_neg h, if_neg (by omega)]; omega
theorem sumG_nn (g : S23 → Int) (hg : ∀ s, 0 ≤ g s) (ps : List S23) : ∀ (m i : Nat), 0 ≤ sumG g ps m i
  | 0, _ => Int.le_refl _
  | m + 1, i => by
    have := sumG_nn g hg ps m (i + 1)
    have := hg (rd_T23 ps i)
    rw [sumG]; omega
theorem gT_nn {n : S23} {kf : Int} {its : List S56} {tb : List Int} (h : goodT n kf its tb) (s : S23) : 0 ≤ gT n tb s ∧ gT n tb s ≤ 100000000000000 := by
  unfold gT
  by_cases hs : inB n s
  · rw [if_pos hs]
    exact h.2.1 _ (ix_lt hs).1 (ix_lt hs).2
  · rw [if_neg hs]; decide
theorem gT_z (n : S23) (tb : List Int) : gT n tb z23 = 0 := by
  unfold gT
  rw [if_neg (fun h => by have h1 : (1 : Int) ≤ 0 := h.1.1; omega)]
theorem rd_bump (u : List Int) (k j : Int) (h0 : 0 ≤ k) (h1 : k < (u.length : Int)) (j0 : 0 ≤ j) : rd (bump u k) j = if j = k then wrap64 (rd u k + 1) else rd u j := rd_setI u k _ j h0 h1 j0
theorem fmF_mono (N : Int) : ∀ (s : List S61) (i : Int) (u u' : List Int) (c : Int), fmF N s i u = some u' → 0 ≤ i → (u.length : Int) = N → (∀ k, 0 ≤ k → 0 ≤ rd u k ∧ rd u k ≤ c) → c + 2 * (s.length : Int) ≤ 1000000 → ∀ k, 0 ≤ k → rd u k ≤ rd u' k
  | [], i, u, u', c, hf, h0, hu, hb, hc, k, k0 => by
    rw [fmF] at hf
    injection hf with hf
    rw [hf]; exact Int.le_refl _
  | n :: s, i, u, u', c, hf, h0, hu, hb, hc, k, k0 => by
    rw [fmF] at hf
    rw [List.length_cons] at hc
    by_cases a : okLeaf n = true
    · rw [if_pos a] at hf
      exact fmF_mono N s (i + 1) u u' c hf (by omega) hu hb (by omega) k k0
    · rw [if_neg a] at hf
      by_cases b : okCut N i n = true
      · rw [if_pos b] at hf
        obtain ⟨_, _, _, hne, h5, h6⟩ := cut_iff.1 b
        have hl1 : ((bump u n.f5).length : Int) = N := by rw [bump_len]; exact hu
        have e5 : ∀ j, 0 ≤ j → rd u j ≤ rd (bump u n.f5) j ∧ rd (bump u n.f5) j ≤ c + 1 ∧ 0 ≤ rd (bump u n.f5) j := fun j j0 => by
          have := hb j j0
          rw [rd_bump u _ _ (by omega) (by omega) j0]
          by_cases e : j = n.f5
          · rw [if_pos e, wr (by have := hb n.f5 (by omega); omega), e]
            have := hb n.f5 (by omega)
            omega
          · rw [if_neg e]; omega
        have e6 : ∀ j, 0 ≤ j → rd u j ≤ rd (bump (bump u n.f5) n.f6) j ∧ rd (bump (bump u n.f5) n.f6) j ≤ c + 2 ∧ 0 ≤ rd (bump (bump u n.f5) n.f6) j := fun j j0 => by
          have := e5 j j0
          rw [rd_bump _ _ _ (by omega) (by omega) j0]
          by_cases e : j = n.f6
          · rw [if_pos e, wr (by have := e5 n.f6 (by omega); omega)]
            rw [e] at this ⊢
            omega
          · rw [if_neg e]; omega
        have := fmF_mono N s (i + 1) _ u' (c + 2) hf (by omega) (by rw [bump_len]; exact hl1) (fun j j0 => ⟨(e6 j j0).2.2, (e6 j j0).2.1⟩) (by omega) k k0
        have := e6 k k0
        omega
      · rw [if_neg b] at hf
        exact absurd hf (by simp)
theorem fmF_len (N : Int) : ∀ (s : List S61) (i : Int) (u u' : List Int), fmF N s i u = some u' → u'.length = u.length
  | [], i, u, u', hf => by
    rw [fmF] at hf
    injection hf with hf
    rw [hf]
  | n :: s, i, u, u', hf => by
    rw [fmF] at hf
    by_cases a : okLeaf n = true
    · rw [if_pos a] at hf
      exact fmF_len N s (i + 1) u u' hf
    · rw [if_neg a] at hf
      by_cases b : okCut N i n = true
      · rw [if_pos b] at hf
        rw [fmF_len N s (i + 1) _ u' hf, bump_len, bump_len]
      · rw [if_neg b] at hf
        exact absurd hf (by simp)
theorem fin_rd {u : List Int} (h : finB u = true) {k : Int} (h1 : 1 ≤ k) (h2 : k < (u.length : Int)) : rd u k = 1 := by
  unfold finB at h
  rw [List.all_eq_true] at h
  have hl : k.toNat < u.length := by omega
  have e : rd u k = u[k.toNat] := by unfold rd; rw [List.getD_eq_getElem?_getD, List.getElem?_eq_getElem hl]; rfl
  rw [e]
  have hm : u[k.toNat] ∈ u.drop 1 := by
    rw [List.mem_iff_getElem]
    refine ⟨k.toNat - 1, by rw [List.length_drop]; omega, ?_⟩
    rw [List.getElem_drop]
    congr 1
    omega
  simpa using h _ hm
def Zn (n s : S23) : Prop := s = z23 ∨ inB n s
theorem bound_run {n : S23} {kf : Int} {its : List S56} {tb : List Int} (hn : okN n) (hk : 0 ≤ kf ∧ kf ≤ 24) (hit : its.all itOk = true) (hg : goodT n kf its tb) {l : List S61} (hl : l.length ≤ 1024) {u' : List Int} (hu' : finB u' = true) (B : Int) (hB : B ≤ 100000000000000) : ∀ (s p : List S61) (u : List Int) (ps bs : List S23) (t v : Int), p ++ s = l → fmF l.length s p.length u = some u' → u.length = l.length → ps.length = l.length → bs.length = l.length → PBs ps bs →
    (∀ k, 0 ≤ k → 0 ≤ rd u k ∧ rd u k ≤ 2 * (p.length : Int)) → (∀ k : Int, 1 ≤ k → (p.length : Int) ≤ k → rd u k = 0 → rd_T23 ps k = z23) → (∀ x, Zn n (rd_T23 ps x)) → 0 ≤ t → t + sumG (gT n tb) ps s.length p.length ≤ B → valF kf its s p.length ps bs t = some (v, 0) → v ≤ B
  | [], p, u, ps, bs, t, v, hp, hf, h0, h1, h2, h, hu, hz, hZ, ht, hs, hv => by
    rw [valF_nil] at hv
    injection hv with hv
    injection hv with hv _
    have : sumG (gT n tb) ps ([] : List S61).length p.length = 0 := rfl
    omega
  | nd :: s, p, u, ps, bs, t, v, hp, hf, h0, h1, h2, h, hu, hz, hZ, ht, hs, hv => by
    have hlt : (p.length : Int) < (l.length : Int) := by rw [← hp]; exact len_app p s nd
    have hsn : (p ++ [nd]).length = p.length + 1 := by simp
    have hls : p.length + (s.length + 1) = l.length := by rw [← hp]; simp
    have hnn := sumG_nn (gT n tb) (fun s => (gT_nn hg s).1) ps s.length (p.length + 1)
    have hgi := (gT_nn hg (rd_T23 ps p.length)).1
    rw [List.length_cons, sumG] at hs
    rw [fmF] at hf
    by_cases a : okLeaf nd = true
    · rw [if_pos a] at hf
      have ih := fun t => bound_run hn hk hit hg hl hu' B hB s (p ++ [nd]) u ps bs t v (by rw [← hp]; simp) (by rw [len_snoc]; exact hf) h0 h1 h2 h (fun k k0 => by have := hu k k0; rw [len_snoc]; omega) (fun k k1 kp => hz k k1 (by rw [len_snoc] at kp; omega)) hZ
      rw [hsn] at ih
      have h02 := (leaf_iff.1 a).1
      by_cases e1 : nd.f0 = 1
      · rw [valF_prod e1] at hv
        by_cases q0 : itemIx its nd.f1 0 < 0
        · rw [if_pos q0] at hv
          injection hv with hv
          injection hv with _ hv
          exact absurd hv (by decide)
        · rw [if_neg q0] at hv
          by_cases q1 : fitsB (rd_T56 its (itemIx its nd.f1 0)).f1 (rd_T23 ps p.length) = true
          · rw [if_pos q1] at hv
            have hix := itemIx_lt nd.f1 its 0
            have hmem : rd_T56 its (itemIx its nd.f1 0) ∈ its := by
              have hlt2 : (itemIx its nd.f1 0).toNat < its.length := by omega
              unfold rd_T56
              rw [List.getD_eq_getElem?_getD, List.getElem?_eq_getElem hlt2]
              exact List.getElem_mem hlt2
            obtain ⟨hpos, hv0, hv1⟩ := itOk_v hit hmem
            have hin : inB n (rd_T23 ps p.length) := (hZ p.length).resolve_left (fun e => by
              rw [e] at q1
              unfold fitsB at q1
              simp only [Bool.and_eq_true, decide_eq_true_eq] at q1
              have q2 : (rd_T56 its (itemIx its nd.f1 0)).f1.f0 ≤ 0 := q1.1.1
              have := hpos.1.1
              omega)
            have hle := (need_le.1 (hg.2.2 _ hin)).2.1 _ hmem q1
            have hgv : gT n tb (rd_T23 ps p.length) = rd tb (ix n (rd_T23 ps p.length)) := by unfold gT; rw [if_pos hin]
            rw [wr (by omega)] at hv
            exact ih _ (by omega) (by omega) hv
          · rw [if_neg q1] at hv
            injection hv with hv
            injection hv with _ hv
            exact absurd hv (by decide)
      · rw [valF_other e1 (by omega)] at hv
        exact ih t ht (by omega) hv
    · rw [if_neg a] at hf
      by_cases hc : okCut l.length p.length nd = true
      · rw [if_pos hc] at hf
        have hlen := cut_len kf nd p.length ps bs
        have hcp : okCut ps.length p.length nd = true := by rw [h1]; exact hc
        rw [valF_cut hk (h _) hcp] at hv
        by_cases hin : cutIn kf nd (rd_T23 ps p.length) (rd_T23 bs p.length)
        · rw [if_pos hin] at hv
          obtain ⟨h3, ha, _, hne, h5, h6⟩ := cut_iff.1 hc
          have hax := (h p.length).ax ha
          have hin' := hin
          unfold cutIn at hin'
          have hpin : inB n (rd_T23 ps p.length) := (hZ p.length).resolve_left (fun e => by
            rw [e] at hin'
            have hz0 : getAx z23 nd.f2 = 0 := by unfold getAx; simp [z23]
            omega)
          -- the cut is one of the cuts of the piece
          have hmem : ctA kf (rd_T23 ps p.length) nd.f2 (nd.f3 - getAx (rd_T23 bs p.length) nd.f2) ∈ cutsL kf (rd_T23 ps p.length) := mem_cutsL.2 ⟨nd.f2, _, ha, by omega, by omega, rfl⟩
          have hci := cut_in hn hpin hk.1 hmem
          have hle := (need_le.1 (hg.2.2 _ hpin)).2.2 _ hmem
          rw [both_eq hn hk.1 hpin tb hmem] at hle
          have hgi2 : gT n tb (rd_T23 ps p.length) = rd tb (ix n (rd_T23 ps p.length)) := by unfold gT; rw [if_pos hpin]
          obtain ⟨⟨hil, _⟩, hir, _⟩ := hci
          have hgl : gT n tb (ctA kf (rd_T23 ps p.length) nd.f2 (nd.f3 - getAx (rd_T23 bs p.length) nd.f2)).l = rd tb (ix n (ctA kf (rd_T23 ps p.length) nd.f2 (nd.f3 - getAx (rd_T23 bs p.length) nd.f2)).l) := by unfold gT; rw [if_pos hil]
          have hgr : gT n tb (ctA kf (rd_T23 ps p.length) nd.f2 (nd.f3 - getAx (rd_T23 bs p.length) nd.f2)).r = rd tb (ix n (ctA kf (rd_T23 ps p.length) nd.f2 (nd.f3 - getAx (rd_T23 bs p.length) nd.f2)).r) := by unfold gT; rw [if_pos hir]
          have bl := hg.2.1 _ (ix_lt hil).1 (ix_lt hil).2
          have br := hg.2.1 _ (ix_lt hir).1 (ix_lt hir).2
          rw [wr (by omega)] at hle
          -- the parts were not there before
          have e5 : ∀ j, 0 ≤ j → rd (bump u nd.f5) j = if j = nd.f5 then rd u j + 1 else rd u j := fun j j0 => by
            have := hu nd.f5 (by omega)
            rw [rd_bump u _ _ (by omega) (by omega) j0, wr (by omega)]
            by_cases e : j = nd.f5
            · rw [if_pos e, if_pos e, e]
            · rw [if_neg e, if_neg e]
          have e6 : ∀ j, 0 ≤ j → rd (bump (bump u nd.f5) nd.f6) j = if j = nd.f6 then rd u j + 1 else if j = nd.f5 then rd u j + 1 else rd u j := fun j j0 => by
            have := hu nd.f6 (by omega)
            have e56 : rd (bump u nd.f5) nd.f6 = rd u nd.f6 := by rw [e5 nd.f6 (by omega), if_neg (fun e => hne e.symm)]
            rw [rd_bump _ _ _ (by omega) (by rw [bump_len]; omega) j0, e56, wr (by omega), e5 j j0]
            by_cases e : j = nd.f6
            · rw [if_pos e, if_pos e, e]
            · rw [if_neg e, if_neg e]
          have hb6 : ∀ k, 0 ≤ k → 0 ≤ rd (bump (bump u nd.f5) nd.f6) k ∧ rd (bump (bump u nd.f5) nd.f6) k ≤ 2 * (p.length : Int) + 2 := fun k k0 => by
            have := hu k k0
            rw [e6 k k0]
            by_cases e : k = nd.f6
            · rw [if_pos e]; omega
            · rw [if_neg e]
              by_cases e' : k = nd.f5
              · rw [if_pos e']; omega
              · rw [if_neg e']; omega
          have hmono := fmF_mono l.length s (p.length + 1) _ u' (2 * (p.length : Int) + 2) hf (by omega) (by rw [bump_len, bump_len, h0]) hb6 (by omega)
          have hlu := fmF_len l.length s _ _ u' hf
          rw [bump_len, bump_len, h0] at hlu
          have z5 : rd_T23 ps nd.f5 = z23 := hz nd.f5 (by omega) (by omega) (by
            have m5 := hmono nd.f5 (by omega)
            rw [fin_rd hu' (by omega) (by rw [hlu]; omega), e6 _ (by omega), if_neg hne, if_pos rfl] at m5
            have := hu nd.f5 (by omega)
            omega)
          have z6 : rd_T23 ps nd.f6 = z23 := hz nd.f6 (by omega) (by omega) (by
            have m6 := hmono nd.f6 (by omega)
            rw [fin_rd hu' (by omega) (by rw [hlu]; omega), e6 _ (by omega), if_pos rfl] at m6
            have := hu nd.f6 (by omega)
            omega)
          have hr1 : ∀ x, rd_T23 (cutP kf nd p.length ps bs) x = if x.toNat = nd.f6.toNat then (ctA kf (rd_T23 ps p.length) nd.f2 (nd.f3 - getAx (rd_T23 bs p.length) nd.f2)).r else if x.toNat = nd.f5.toNat then (ctA kf (rd_T23 ps p.length) nd.f2 (nd.f3 - getAx (rd_T23 bs p.length) nd.f2)).l else rd_T23 ps x := fun x => by
            unfold cutP
            rw [rd23_set _ _ _ _ (by simp; omega), rd23_set _ _ _ _ (by omega)]
            rfl
          have ih := bound_run hn hk hit hg hl hu' B hB s (p ++ [nd]) _ (cutP kf nd p.length ps bs) (cutB kf nd p.length bs) t v (by rw [← hp]; simp) (by rw [len_snoc]; exact hf) (by rw [bump_len, bump_len, h0]) (by rw [hlen.1, h1]) (by rw [hlen.2, h2]) (cut_PBs hk.1 (by omega) h hcp (by omega) hin)
            (fun k k0 => by have := hb6 k k0; rw [len_snoc]; omega)
            (fun k k1 kp hk0 => by
              rw [len_snoc] at kp
              have hub := hu k (by omega)
              rw [e6 k (by omega)] at hk0
              by_cases e : k = nd.f6
              · rw [if_pos e] at hk0; omega
              · rw [if_neg e] at hk0
                by_cases e' : k = nd.f5
                · rw [if_pos e'] at hk0; omega
                · rw [if_neg e'] at hk0
                  rw [hr1, if_neg (by omega), if_neg (by omega)]
                  exact hz k k1 (by omega) hk0)
            (fun x => by
              rw [hr1]
              by_cases e : x.toNat = nd.f6.toNat
              · rw [if_pos e]; exact Or.inr hir
              · rw [if_neg e]
                by_cases e' : x.toNat = nd.f5.toNat
                · rw [if_pos e']; exact Or.inr hil
                · rw [if_neg e']; exact hZ x) ht
          rw [hsn] at ih
          refine ih ?_ hv
          have hsum : sumG (gT n tb) (cutP kf nd p.length ps bs) s.length (p.length + 1) = sumG (gT n tb) ps s.length (p.length + 1) + gT n tb (ctA kf (rd_T23 ps p.length) nd.f2 (nd.f3 - getAx (rd_T23 bs p.length) nd.f2)).l + gT n tb (ctA kf (rd_T23 ps p.length) nd.f2 (nd.f3 - getAx (rd_T23 bs p.length) nd.f2)).r := by
            unfold cutP
            rw [sumG_set _ _ _ _ (by simp; omega), if_pos (by omega), sumG_set _ _ _ _ (by omega), if_pos (by omega), rd23_set _ _ _ _ (by omega), if_neg (by omega), show ((nd.f6.toNat : Nat) : Int) = nd.f6 by omega, show ((nd.f5.toNat : Nat) : Int) = nd.f5 by omega, z5, z6, gT_z]
            show _ + (gT n tb (ctA kf (rd_T23 ps p.length) nd.f2 (nd.f3 - getAx (rd_T23 bs p.length) nd.f2)).l - 0) + (gT n tb (ctA kf (rd_T23 ps p.length) nd.f2 (nd.f3 - getAx (rd_T23 bs p.length) nd.f2)).r - 0) = _
            omega
          rw [hsum]
          omega
        · rw [if_neg hin] at hv
          injection hv with hv
          injection hv with _ hv
          exact absurd hv (by decide)
      · rw [if_neg hc] at hf
        exact absurd hf (by simp)
theorem ix_top {n : S23} (hn : okN n) : inB n n ∧ ix n n = cnt n - 1 := by
  unfold okN at hn
  refine ⟨by unfold inB; omega, ?_⟩
  unfold ix cnt
  rw [Int.sub_mul n.f2 1 n.f1, Int.one_mul, show n.f2 * n.f1 - n.f1 + (n.f1 - 1) = n.f2 * n.f1 - 1 by omega, Int.sub_mul, Int.one_mul, Int.mul_comm n.f2 n.f1, Int.mul_comm (n.f1 * n.f2) n.f0, Int.mul_assoc n.f0]
  omega
theorem value_le {n : S23} {kf : Int} {its : List S56} (hc : chk n kf its = 0) {tb : List Int} (hg : goodT n kf its tb) {l : List S61} (h : (valR n kf its l).2 = 0) : (valR n kf its l).1 ≤ rd tb (cnt n - 1) := by
  obtain ⟨hn, hk, hi, hit, _⟩ := chk_ok hc
  unfold valR at h ⊢
  rw [if_pos hc] at h ⊢
  by_cases h1 : l.length > 1024
  · rw [if_pos h1] at h
    exact absurd h (by decide)
  · rw [if_neg h1] at h ⊢
    cases hf : formB l
    · rw [hf] at h
      exact absurd (show (1 : Int) = 0 from h) (by decide)
    · rw [hf] at h
      rw [if_pos rfl] at h ⊢
      obtain ⟨r, hr⟩ := val_ex0 hc hf
      obtain ⟨h0, u, hu, hfin⟩ := form_some hf
      rw [hr] at h ⊢
      have htop := ix_top hn
      have hb := hg.2.1 _ (ix_lt htop.1).1 (ix_lt htop.1).2
      rw [htop.2] at hb
      have hrep : ∀ k, rd (List.replicate l.length (0 : Int)) k = 0 := fun k => by
        unfold rd
        rw [List.getD_eq_getElem?_getD, List.getElem?_replicate]
        by_cases hh : k.toNat < l.length
        · rw [if_pos hh]; rfl
        · rw [if_neg hh]; rfl
      have hps : ∀ x, rd_T23 (ps0 n l.length) x = if x.toNat = 0 then n else z23 := fun x => by
        unfold ps0
        rw [rd23_set _ _ _ _ (by simp; exact h0), rd23_rep]
      have hv : valF kf its l 0 (ps0 n l.length) (List.replicate l.length z23) 0 = some (r.1, 0) := by
        rw [hr]
        have : r.2 = 0 := h
        rw [← this]
      refine bound_run (l := l) hn hk hit hg (show l.length ≤ 1024 by omega) hfin (rd tb (cnt n - 1)) hb.2 l [] _ _ _ 0 r.1 rfl hu (by simp) (by unfold ps0; simp) (by simp) (PBs0 hn h0) (fun k _ => by rw [hrep]; exact ⟨Int.le_refl _, by decide⟩) (fun k k1 _ _ => by rw [hps, if_neg (by omega)]) (fun x => ?_) (Int.le_refl _) ?_ hv
      · rw [hps]
        by_cases e : x.toNat = 0
        · rw [if_pos e]; exact Or.inr htop.1
        · rw [if_neg e]; exact Or.inl rfl
      · have hsum : ∀ m i, sumG (gT n tb) (List.replicate l.length z23) m i = 0 := fun m => by
          induction m with
          | zero => intro i; rfl
          | succ m ih => intro i; rw [sumG, ih, rd23_rep, gT_z]; rfl
        unfold ps0
        rw [sumG_set _ _ _ _ (by simp; exact h0), hsum, rd23_rep, gT_z, if_pos (by simp; exact h0)]
        have hgn : gT n tb n = rd tb (cnt n - 1) := by unfold gT; rw [if_pos htop.1, htop.2]
        rw [hgn]
        omega

def prv (n : S23) (kf : Int) (its : List S56) (tb : List Int) (l : List S61) : Bool := if (bnd n kf its tb).2 = 0 then (if (valR n kf its l).2 = 0 then (valR n kf its l).1 == (bnd n kf its tb).1 else false) else false
theorem prv_ev (n : S23) (kf : Int) (its : List S56) (tb : List Int) (l : List S61) : Ev (fun k => boxpack_Proves.f k n.f0 n.f1 n.f2 kf its tb l) (prv n kf its tb l) := by
  unfold boxpack_Proves.f prv
  refine Ev.bind (f := fun k bt190 => (if bt190.2 = 0 then ((boxpack_Value.f k n.f0 n.f1 n.f2 kf its l).bind fun bt192 => (if bt192.2 = 0 then (some (bt192.1 == bt190.1)) else (some false))) else (some false))) (bnd_ev n kf its tb) ?_
  by_cases h : (bnd n kf its tb).2 = 0
  · simp only [if_pos h]
    refine Ev.bind (f := fun k bt192 => (if bt192.2 = 0 then (some (bt192.1 == (bnd n kf its tb).1)) else (some false))) (value_ev n kf its l) ?_
    by_cases h2 : (valR n kf its l).2 = 0
    · simp only [if_pos h2]; exact Ev.now _
    · simp only [if_neg h2]; exact Ev.now _
  · simp only [if_neg h]; exact Ev.now _
def ckR (n : S23) (kf : Int) (its : List S56) (tb : List Int) : Int × Int := if chk n kf its = 0 then ckT n kf its tb else (0, chk n kf its)
theorem bnd_ck (n : S23) (kf : Int) (its : List S56) (tb : List Int) : (bnd n kf its tb).2 = (ckR n kf its tb).2 := by
  unfold bnd ckR
  by_cases hc : chk n kf its = 0
  · rw [if_pos hc, if_pos hc]
    by_cases h : (ckT n kf its tb).2 = 0
    · rw [if_pos h, h]
    · rw [if_neg h]
  · rw [if_neg hc, if_neg hc]
theorem bnd_ok {n : S23} {kf : Int} {its : List S56} {tb : List Int} (h : (bnd n kf its tb).2 = 0) : chk n kf its = 0 ∧ goodT n kf its tb ∧ ckR n kf its tb = ((tb.length : Int), 0) ∧ bnd n kf its tb = (rd tb (cnt n - 1), 0) := by
  by_cases hc : chk n kf its = 0
  · have h2 : (ckT n kf its tb).2 = 0 := by
      rw [bnd_ck] at h
      unfold ckR at h
      rw [if_pos hc] at h
      exact h
    have hg := ckT_good h2
    refine ⟨hc, hg.1, by unfold ckR; rw [if_pos hc, hg.2], ?_⟩
    rw [bnd_good hc h2, hg.1.1]
  · rw [bnd_no hc] at h
    exact absurd h hc
theorem Bounds_ev (n : S23) (kf : Int) (its : List S56) (tb : List Int) (l : List S61) : Ev (fun k => lw_BoxpackBounds.f k n.f0 n.f1 n.f2 kf its tb l) true := by
  unfold lw_BoxpackBounds.f
  refine Ev.bind (f := fun k t315 => lw_BoxpackBounds.j0 k tb l (!t315) n.f0 n.f1 n.f2 kf its) awake_ev ?_
  refine Ev.step (f := fun k => lw_BoxpackBounds.j1 k tb l n.f0 n.f1 n.f2 kf its) (fun k => rfl) ?_
  refine Ev.step (f := fun k => (rf_Small.f k n.f0 n.f1 n.f2 kf its 8).bind fun t410 => (if t410 = true then (if (tb.length : Int) > 600 then (lw_BoxpackBounds.j2 k tb l true n.f0 n.f1 n.f2 kf its) else (lw_BoxpackBounds.j2 k tb l (decide ((l.length : Int) > 60)) n.f0 n.f1 n.f2 kf its)) else (lw_BoxpackBounds.j2 k tb l true n.f0 n.f1 n.f2 kf its))) (fun k => rfl) ?_
  refine Ev.bind (f := fun k t410 => (if t410 = true then (if (tb.length : Int) > 600 then (lw_BoxpackBounds.j2 k tb l true n.f0 n.f1 n.f2 kf its) else (lw_BoxpackBounds.j2 k tb l (decide ((l.length : Int) > 60)) n.f0 n.f1 n.f2 kf its)) else (lw_BoxpackBounds.j2 k tb l true n.f0 n.f1 n.f2 kf its))) (small_ev n kf its 8) ?_
  have hT : Ev (fun k => lw_BoxpackBounds.j2 k tb l true n.f0 n.f1 n.f2 kf its) true := Ev.const1 (fun k => rfl)
  have h9 : ∀ b, b = true → Ev (fun k => lw_BoxpackBounds.j9 k b) true := fun b hb => Ev.const1 (fun k => by rw [hb]; rfl)
  have hF : Ev (fun k => lw_BoxpackBounds.j2 k tb l false n.f0 n.f1 n.f2 kf its) true := by
    refine Ev.step (f := fun k => lw_BoxpackBounds.j3 k tb l n.f0 n.f1 n.f2 kf its) (fun k => rfl) ?_
    refine Ev.step (f := fun k => (boxpack_Bound.f k n.f0 n.f1 n.f2 kf its tb).bind fun bt412 => (lw_BoxpackBounds.j4 k tb l bt412.1 bt412.2 n.f0 n.f1 n.f2 kf its)) (fun k => rfl) ?_
    refine Ev.bind (f := fun k bt412 => (lw_BoxpackBounds.j4 k tb l bt412.1 bt412.2 n.f0 n.f1 n.f2 kf its)) (bnd_ev n kf its tb) ?_
    refine Ev.step (f := fun k => (boxpack_Value.f k n.f0 n.f1 n.f2 kf its l).bind fun bt414 => (lw_BoxpackBounds.j5 k tb l _ _ bt414.1 bt414.2 n.f0 n.f1 n.f2 kf its)) (fun k => rfl) ?_
    refine Ev.bind (f := fun k bt414 => (lw_BoxpackBounds.j5 k tb l _ _ bt414.1 bt414.2 n.f0 n.f1 n.f2 kf its)) (value_ev n kf its l) ?_
    refine Ev.step (f := fun k => (boxpack_CheckTable.f k n.f0 n.f1 n.f2 kf its tb).bind fun bt416 => (lw_BoxpackBounds.j6 k tb l _ _ _ _ bt416.1 bt416.2 n.f0 n.f1 n.f2 kf its)) (fun k => rfl) ?_
    refine Ev.bind (f := fun k bt416 => (lw_BoxpackBounds.j6 k tb l _ _ _ _ bt416.1 bt416.2 n.f0 n.f1 n.f2 kf its)) (show Ev (fun k => boxpack_CheckTable.f k n.f0 n.f1 n.f2 kf its tb) (ckR n kf its tb) from ckf_ev n kf its tb) ?_
    have h8 : Ev (fun k => lw_BoxpackBounds.j8 k tb l (bnd n kf its tb).1 (bnd n kf its tb).2 (valR n kf its l).1 (valR n kf its l).2 n.f0 n.f1 n.f2 kf its) true := by
      by_cases e : (bnd n kf its tb).2 = 0
      · by_cases f : (valR n kf its l).2 = 0
        · obtain ⟨hc, hg, _, hb⟩ := bnd_ok e
          have hle := value_le hc hg f
          refine Ev.step (f := fun k => (boxpack_Proves.f k n.f0 n.f1 n.f2 kf its tb l).bind fun t418 => (lw_BoxpackBounds.j9 k (t418 == ((valR n kf its l).1 == (bnd n kf its tb).1)))) (fun k => ?_) ?_
          · rw [lw_BoxpackBounds.j8, if_pos e, if_pos f, if_pos (by rw [hb]; exact hle)]
          · refine Ev.bind (f := fun k t418 => (lw_BoxpackBounds.j9 k (t418 == ((valR n kf its l).1 == (bnd n kf its tb).1)))) (prv_ev n kf its tb l) (h9 _ ?_)
            unfold prv
            rw [if_pos e, if_pos f]
            simp
        · refine Ev.step (f := fun k => lw_BoxpackBounds.j9 k true) (fun k => ?_) (h9 _ rfl)
          rw [lw_BoxpackBounds.j8, if_pos e, if_neg f]
      · refine Ev.step (f := fun k => lw_BoxpackBounds.j9 k true) (fun k => ?_) (h9 _ rfl)
        rw [lw_BoxpackBounds.j8, if_neg e]
    have h7 : Ev (fun k => lw_BoxpackBounds.j7 k tb l (bnd n kf its tb).1 (bnd n kf its tb).2 (valR n kf its l).1 (valR n kf its l).2 false n.f0 n.f1 n.f2 kf its) true := Ev.step (fun k => rfl) h8
    by_cases e : (bnd n kf its tb).2 = 0
    · obtain ⟨hc, hg, hk, hb⟩ := bnd_ok e
      refine Ev.step (fun k => ?_) h7
      rw [lw_BoxpackBounds.j6, if_pos (bnd_ck n kf its tb), if_pos e, hk]
      simp
    · refine Ev.step (fun k => ?_) h7
      rw [lw_BoxpackBounds.j6, if_pos (bnd_ck n kf its tb), if_neg e]
  have hB : ∀ b, Ev (fun k => lw_BoxpackBounds.j2 k tb l b n.f0 n.f1 n.f2 kf its) true := fun b => by cases b; exact hF; exact hT
  cases small n kf its 8
  · exact hT
  · simp only [if_true]
    by_cases h6 : (tb.length : Int) > 600
    · simp only [if_pos h6]; exact hT
    · simp only [if_neg h6]; exact hB _

def le23 (s t : S23) : Prop := s.f0 ≤ t.f0 ∧ s.f1 ≤ t.f1 ∧ s.f2 ≤ t.f2
theorem le23.ax {s t : S23} (h : le23 s t) {ax : Int} (ha : 0 ≤ ax ∧ ax ≤ 2) : getAx s ax ≤ getAx t ax := by
  have h1 : ax = 0 ∨ ax = 1 ∨ ax = 2 := by omega
  rcases h1 with rfl | rfl | rfl
  · exact h.1
  · exact h.2.1
  · exact h.2.2
theorem le23.set {s t : S23} (h : le23 s t) {ax v w : Int} (ha : 0 ≤ ax ∧ ax ≤ 2) (hv : v ≤ w) : le23 (setAx s ax v) (setAx t ax w) := by
  have h1 : ax = 0 ∨ ax = 1 ∨ ax = 2 := by omega
  rcases h1 with rfl | rfl | rfl
  · exact ⟨hv, h.2⟩
  · exact ⟨h.1, hv, h.2.2⟩
  · exact ⟨h.1, h.2.1, hv⟩
end Go.Proofs.Ytgacodhpniehiaa.XA
