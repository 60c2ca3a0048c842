import Derived.Test.YtgacodhpniehiaaXAx36
set_option linter.unusedVariables false
set_option linter.unusedSimpArgs false
namespace Go.Proofs.Ytgacodhpniehiaa.XA
set_option linter.unusedVariables false
set_option linter.unusedSimpArgs false
open Go.RowKit Opens YtgacodhpniehiaaW.PrintWords YtgacodhpniehiaaW.PrintLast YtgacodhpniehiaaW.PrintMore
theorem wr {x : Int} (h : -9223372036854775808 ≤ x ∧ x ≤ 9223372036854775807) : wrap64 x = x := by unfold wrap64; omega
theorem Ev.eq {α : Type} {g : Nat → Option α} {r s : α} (h : Ev g r) (e : r = s) : Ev g s := e ▸ h
theorem Ev.const {α : Type} {g : Nat → Option α} {r : α} (h : ∀ k, g k = some r) : Ev g r := ⟨0, fun k _ => h k⟩
theorem Ev.const1 {α : Type} {g : Nat → Option α} {r : α} (h : ∀ k, g (k + 1) = some r) : Ev g r := ⟨1, fun k hk => by
  obtain ⟨m, rfl⟩ : ∃ m, k = m + 1 := ⟨k - 1, by omega⟩
  exact h m⟩
theorem Ev.late {α : Type} {g : Nat → Option α} {r : α} (K : Nat) (h : ∀ k, g (k + K) = some r) : Ev g r := ⟨K, fun k hk => by
  obtain ⟨m, rfl⟩ : ∃ m, k = m + K := ⟨k - K, by omega⟩
  exact h m⟩
theorem len_app {α : Type} (p s : List α) (e : α) : ((p.length : Nat) : Int) < ((p ++ e :: s).length : Int) := by simp; omega
theorem app_snoc {α : Type} (p s : List α) (e : α) : p ++ e :: s = (p ++ [e]) ++ s := by simp
theorem len_snoc {α : Type} (p : List α) (e : α) : ((p ++ [e]).length : Int) = (p.length : Int) + 1 := by simp
theorem wrn (n : Nat) (h : n < 1000000) : wrap64 ((n : Int) + 1) = (n : Int) + 1 := wr ⟨by omega, by omega⟩
theorem rd56_app (p s : List S56) (e : S56) : rd_T56 (p ++ e :: s) (p.length : Int) = e := by
  simp [rd_T56, List.getD_eq_getElem?_getD]
theorem rd61_app (p s : List S61) (e : S61) : rd_T61 (p ++ e :: s) (p.length : Int) = e := by
  simp [rd_T61, List.getD_eq_getElem?_getD]
def fst {α : Type} (P : α → Bool) : Int → List α → Int
  | _, [] => -1
  | i, x :: s => if P x = true then i else fst P (i + 1) s
theorem fst_any {α : Type} (P : α → Bool) : ∀ (s : List α) (i : Int), 0 ≤ i → decide (fst P i s ≥ 0) = s.any P
  | [], _, _ => rfl
  | x :: s, i, h => by
    rw [fst, List.any_cons]
    by_cases c : P x = true
    · rw [if_pos c, c, decide_eq_true h]; rfl
    · rw [if_neg c, fst_any P s (i + 1) (by omega), Bool.eq_false_iff.2 c]; rfl
theorem ix_ev {α : Type} (L : Nat → List α → Int → Int → Option Int) (g : Nat → α → Option Bool) (rdx : List α → Int → α) (hr : ∀ p s e, rdx (p ++ e :: s) ((p.length : Nat) : Int) = e)
    (hL : ∀ k xs n i, L (k + 1) xs n i = if i < n then (if 0 ≤ i then (if i < (xs.length : Int) then ((g k (rdx xs i)).bind fun t => (if t = true then (some i) else (L k xs n (wrap64 (i + 1))))) else none) else none) else (some (-1))) (P : α → Bool) :
    ∀ (s p : List α), (∀ x ∈ s, Ev (fun k => g k x) (P x)) → (p ++ s).length < 1000000 → Ev (fun k => L k (p ++ s) ((p ++ s).length : Int) (p.length : Int)) (fst P p.length s)
  | [], p, _, hl => by
    refine Ev.const1 (fun k => ?_)
    rw [hL, if_neg (by simp)]
    rfl
  | x :: s, p, hP, hl => by
    refine Ev.step (f := fun k => (g k x).bind fun t => (if t = true then (some (p.length : Int)) else (L k (p ++ x :: s) ((p ++ x :: s).length : Int) ((p.length : Int) + 1)))) (fun k => ?_) ?_
    · rw [hL, if_pos (len_app p s x), if_pos (by omega), if_pos (len_app p s x), hr, wrn _ (by simp at hl; omega)]
    · refine Ev.bind (f := fun k t => if t = true then (some (p.length : Int)) else (L k (p ++ x :: s) ((p ++ x :: s).length : Int) ((p.length : Int) + 1))) (hP x (List.mem_cons_self)) ?_
      rw [fst]
      by_cases c : P x = true
      · simp only [if_pos c]
        exact Ev.now _
      · simp only [if_neg c]
        have := ix_ev L g rdx hr hL P s (p ++ [x]) (fun y hy => hP y (List.mem_cons_of_mem _ hy)) (by rw [← app_snoc]; exact hl)
        rw [← app_snoc, len_snoc] at this
        exact this
theorem ix_any {α : Type} (L : Nat → List α → Int → Int → Option Int) (g : Nat → α → Option Bool) (rdx : List α → Int → α) (hr : ∀ p s e, rdx (p ++ e :: s) ((p.length : Nat) : Int) = e)
    (hL : ∀ k xs n i, L (k + 1) xs n i = if i < n then (if 0 ≤ i then (if i < (xs.length : Int) then ((g k (rdx xs i)).bind fun t => (if t = true then (some i) else (L k xs n (wrap64 (i + 1))))) else none) else none) else (some (-1))) (P : α → Bool)
    (s : List α) (hP : ∀ x ∈ s, Ev (fun k => g k x) (P x)) (hl : s.length < 1000000) : Ev (fun k => (L k s (s.length : Int) 0).bind fun t => some (decide (t ≥ 0))) (s.any P) := by
  have h := ix_ev L g rdx hr hL P s [] hP hl
  refine Ev.bind (f := fun _ t => some (decide (t ≥ 0))) h ?_
  rw [← fst_any P s 0 (by omega)]
  exact Ev.now _

def pos3 (s : S23) : Bool := decide (1 ≤ s.f0 ∧ s.f0 ≤ 24) && decide (1 ≤ s.f1 ∧ s.f1 ≤ 24) && decide (1 ≤ s.f2 ∧ s.f2 ≤ 24)
def itOk (x : S56) : Bool := pos3 x.f1 && decide (0 ≤ x.f2 ∧ x.f2 ≤ 1000000000)
def nameless (x : S56) : Bool := x.f0.toList == ([] : List UInt8)
def sameName (x y : S56) : Bool := x.f0.toList == y.f0.toList
def dup : List S56 → List S56 → Bool
  | _, [] => false
  | p, x :: s => p.any (fun y => sameName y x) || dup (p ++ [x]) s
def chk (n : S23) (kf : Int) (its : List S56) : Int :=
  if its.length > 6 then 7 else if its.any nameless = true then 4 else if (pos3 n && decide (0 ≤ kf ∧ kf ≤ 24) && its.all itOk) = true then (if dup [] its = true then 5 else 0) else 6
theorem possible_ev (a b c : Int) : Ev (fun k => boxpack_possible.f k a b c) (pos3 ⟨a, b, c⟩) := by
  refine Ev.late 4 (fun k => ?_)
  simp only [boxpack_possible.f, boxpack_sides.f, Option.bind_some, boxpack_possible.l0, pos3]
  grind
theorem check2_ev (x : S56) : Ev (fun k => boxpack_Check_2.f k x.f0 x.f1.f0 x.f1.f1 x.f1.f2 x.f2 x.f3 x.f4) (!itOk x) := by
  unfold boxpack_Check_2.f
  refine Ev.bind (f := fun k t109 => if t109 = true then (if x.f2 < 0 then (some true) else (some (decide (x.f2 > 1000000000)))) else (some true)) (possible_ev _ _ _) ?_
  refine Ev.const (fun k => ?_)
  unfold itOk
  rw [show (⟨x.f1.f0, x.f1.f1, x.f1.f2⟩ : S23) = x.f1 from rfl]
  cases pos3 x.f1
  · rfl
  · by_cases h : x.f2 < 0
    · rw [if_pos rfl, if_pos h, decide_eq_false (show ¬ (0 ≤ x.f2 ∧ x.f2 ≤ 1000000000) by omega)]; rfl
    · rw [if_pos rfl, if_neg h]
      by_cases h1 : x.f2 > 1000000000
      · rw [decide_eq_true h1, decide_eq_false (show ¬ (0 ≤ x.f2 ∧ x.f2 ≤ 1000000000) by omega)]; rfl
      · rw [decide_eq_false h1, decide_eq_true (show (0 ≤ x.f2 ∧ x.f2 ≤ 1000000000) by omega)]; rfl
theorem any_not_all {α : Type} (P : α → Bool) : ∀ s : List α, s.any (fun x => !P x) = !s.all P
  | [] => rfl
  | x :: s => by rw [List.any_cons, List.all_cons, any_not_all P s]; cases P x <;> rfl
theorem c1_ev (s : List S56) (hl : s.length < 1000000) : Ev (fun k => api_Item_34_by_boxpack_Check_1.f k s) (s.any nameless) :=
  ix_any (fun k xs n i => api_Item_30_by_boxpack_Check_1.l0 k xs n i) (fun _ x => boxpack_Check_1.f x.f0 x.f1.f0 x.f1.f1 x.f1.f2 x.f2 x.f3 x.f4) rd_T56 rd56_app (fun _ _ _ _ => rfl) nameless s (fun x _ => Ev.const fun _ => rfl) hl
theorem c2_ev (s : List S56) (hl : s.length < 1000000) : Ev (fun k => api_Item_34_by_boxpack_Check_2.f k s) (!s.all itOk) := by
  rw [← any_not_all]
  exact ix_any (fun k xs n i => api_Item_30_by_boxpack_Check_2.l0 k xs n i) (fun k x => boxpack_Check_2.f k x.f0 x.f1.f0 x.f1.f1 x.f1.f2 x.f2 x.f3 x.f4) rd_T56 rd56_app (fun _ _ _ _ => rfl) (fun x => !itOk x) s (fun x _ => check2_ev x) hl
theorem c3_ev (s : List S56) (x : S56) (hl : s.length < 1000000) : Ev (fun k => api_Item_34_by_boxpack_Check_3.f k s x.f0 x.f1.f0 x.f1.f1 x.f1.f2 x.f2 x.f3 x.f4) (s.any (fun y => sameName y x)) :=
  ix_any (fun k xs n i => api_Item_30_by_boxpack_Check_3.l0 k xs n i x.f0 x.f1.f0 x.f1.f1 x.f1.f2 x.f2 x.f3 x.f4) (fun _ y => boxpack_Check_3.f y.f0 y.f1.f0 y.f1.f1 y.f1.f2 y.f2 y.f3 y.f4 x.f0 x.f1.f0 x.f1.f1 x.f1.f2 x.f2 x.f3 x.f4) rd_T56 rd56_app (fun _ _ _ _ => rfl) (fun y => sameName y x) s (fun y _ => Ev.const fun _ => rfl) hl
theorem cl_ev (a b c d : Int) (its : List S56) (hi : its.length < 1000000) : ∀ (s p : List S56), p ++ s = its → Ev (fun k => boxpack_Check.l0 k its (its.length : Int) (p.length : Int) a b c d its) (if dup p s = true then 5 else 0)
  | [], p, hp => by
    refine Ev.const1 (fun k => ?_)
    rw [boxpack_Check.l0, if_neg (by rw [← hp]; simp)]
    rfl
  | x :: s, p, hp => by
    have hlt : (p.length : Int) < (its.length : Int) := by rw [← hp]; exact len_app p s x
    refine Ev.step (f := fun k => (api_Item_34_by_boxpack_Check_3.f k p x.f0 x.f1.f0 x.f1.f1 x.f1.f2 x.f2 x.f3 x.f4).bind fun t => (if t = true then (some 5) else (boxpack_Check.l0 k its (its.length : Int) ((p ++ [x]).length : Int) a b c d its))) (fun k => ?_) ?_
    · rw [boxpack_Check.l0, if_pos hlt, if_pos (by omega), if_pos hlt, if_pos (by omega), show (its.take ((p.length : Int)).toNat) = p by rw [← hp]; simp, show rd_T56 its (p.length : Int) = x by rw [← hp]; exact rd56_app p s x, wrn _ (by omega), len_snoc]
    · refine Ev.bind (f := fun k t => (if t = true then (some 5) else (boxpack_Check.l0 k its (its.length : Int) ((p ++ [x]).length : Int) a b c d its))) (c3_ev p x (by have := congrArg List.length hp; simp at this; omega)) ?_
      rw [dup]
      cases hd : p.any (fun y => sameName y x)
      · simp only [Bool.false_eq_true, if_false, Bool.false_or]
        exact cl_ev a b c d its hi s (p ++ [x]) (by rw [← hp]; simp)
      · simp only [if_true, Bool.true_or]
        exact Ev.now _
theorem cj_ev (a b c d : Int) (its : List S56) (hi : its.length < 1000000) (t : Bool) : Ev (fun k => boxpack_Check.j0 k t a b c d its) (if t = true then 6 else if dup [] its = true then 5 else 0) := by
  refine Ev.step (f := fun k => if t = true then some 6 else boxpack_Check.l0 k its (its.length : Int) 0 a b c d its) (fun k => rfl) ?_
  cases t
  · simp only [Bool.false_eq_true, if_false]
    exact cl_ev a b c d its hi its [] rfl
  · exact Ev.now _
theorem check_ev (n : S23) (kf : Int) (its : List S56) : Ev (fun k => boxpack_Check.f k n.f0 n.f1 n.f2 kf its) (chk n kf its) := by
  unfold boxpack_Check.f chk
  by_cases h6 : (its.length : Int) > 6
  · simp only [if_pos h6, if_pos (show its.length > 6 by omega)]
    exact Ev.now _
  · simp only [if_neg h6, if_neg (show ¬ its.length > 6 by omega)]
    refine Ev.bind (f := fun k t115 => if t115 = true then (some 4) else ((boxpack_possible.f k n.f0 n.f1 n.f2).bind fun t116 => (if t116 = true then (if kf < 0 then (boxpack_Check.j0 k true n.f0 n.f1 n.f2 kf its) else (if kf > 24 then (boxpack_Check.j0 k true n.f0 n.f1 n.f2 kf its) else ((api_Item_34_by_boxpack_Check_2.f k its).bind fun t117 => (boxpack_Check.j0 k t117 n.f0 n.f1 n.f2 kf its)))) else (boxpack_Check.j0 k true n.f0 n.f1 n.f2 kf its)))) (c1_ev its (by omega)) ?_
    cases its.any nameless
    case true => exact Ev.now _
    simp only [Bool.false_eq_true, if_false]
    refine Ev.bind (f := fun k t116 => if t116 = true then (if kf < 0 then (boxpack_Check.j0 k true n.f0 n.f1 n.f2 kf its) else (if kf > 24 then (boxpack_Check.j0 k true n.f0 n.f1 n.f2 kf its) else ((api_Item_34_by_boxpack_Check_2.f k its).bind fun t117 => (boxpack_Check.j0 k t117 n.f0 n.f1 n.f2 kf its)))) else (boxpack_Check.j0 k true n.f0 n.f1 n.f2 kf its)) (possible_ev n.f0 n.f1 n.f2) ?_
    rw [show (⟨n.f0, n.f1, n.f2⟩ : S23) = n from rfl]
    cases pos3 n
    case false =>
      simp only [Bool.false_eq_true, if_false, Bool.false_and]
      exact cj_ev _ _ _ _ its (by omega) true
    simp only [if_true, Bool.true_and]
    by_cases k0 : kf < 0
    · simp only [if_pos k0, decide_eq_false (show ¬ (0 ≤ kf ∧ kf ≤ 24) by omega), Bool.false_and, Bool.false_eq_true, if_false]
      exact cj_ev _ _ _ _ its (by omega) true
    by_cases k1 : kf > 24
    · simp only [if_neg k0, if_pos k1, decide_eq_false (show ¬ (0 ≤ kf ∧ kf ≤ 24) by omega), Bool.false_and, Bool.false_eq_true, if_false]
      exact cj_ev _ _ _ _ its (by omega) true
    simp only [if_neg k0, if_neg k1, decide_eq_true (show (0 ≤ kf ∧ kf ≤ 24) by omega), Bool.true_and]
    refine Ev.bind (f := fun k t117 => boxpack_Check.j0 k t117 n.f0 n.f1 n.f2 kf its) (c2_ev its (by omega)) ?_
    refine Ev.eq (cj_ev _ _ _ _ its (by omega) _) ?_
    cases its.all itOk <;> rfl

theorem side_eq (s : S23) (ax : Int) (h : 0 ≤ ax ∧ ax ≤ 2) : rf_side.f s.f0 s.f1 s.f2 ax = some (getAx s ax) := by
  have : ax = 0 ∨ ax = 1 ∨ ax = 2 := by omega
  rcases this with rfl | rfl | rfl <;> rfl
theorem sized_ev (s : S23) : Ev (fun k => rf_sized.f k s.f0 s.f1 s.f2) (pos3 s) := by
  refine Ev.late 4 (fun k => ?_)
  simp only [rf_sized.f, rf_sized.l0]
  rw [show wrap64 (0 + 1) = 1 from wr ⟨by decide, by decide⟩, show wrap64 (1 + 1) = 2 from wr ⟨by decide, by decide⟩, show wrap64 (2 + 1) = 3 from wr ⟨by decide, by decide⟩]
  simp only [side_eq s 0 (by decide), side_eq s 1 (by decide), side_eq s 2 (by decide), Option.bind_some, pos3]
  rw [show getAx s 0 = s.f0 from rfl, show getAx s 1 = s.f1 from rfl, show getAx s 2 = s.f2 from rfl]
  grind
theorem r3_ev (a b c d : Int) (its : List S56) (hi : its.length < 1000000) (x : S56) (s : List S56) (p : List S56) (hp : p ++ x :: s = its) (R : Int) (hn : Ev (fun k => rf_Check.l2 k ((p.length : Int) + 1) a b c d its) R) : ∀ (q2 q1 : List S56), q1 ++ q2 = p → Ev (fun k => rf_Check.l3 k (p.length : Int) (q1.length : Int) a b c d its) (if q2.any (fun y => sameName y x) = true then 5 else R)
  | [], q1, hq => by
    refine Ev.step (f := fun k => rf_Check.l2 k ((p.length : Int) + 1) a b c d its) (fun k => ?_) hn
    rw [rf_Check.l3, if_neg (by rw [← hq]; simp), wrn _ (by have := congrArg List.length hp; simp at this; omega)]
  | y :: q2, q1, hq => by
    have h1 : (q1.length : Int) < (p.length : Int) := by rw [← hq]; exact len_app q1 q2 y
    have h2 : (p.length : Int) < (its.length : Int) := by rw [← hp]; exact len_app p s x
    have hx : rd_T56 its (p.length : Int) = x := by rw [← hp]; exact rd56_app p s x
    have hy : rd_T56 its (q1.length : Int) = y := by rw [← hp, ← hq, List.append_assoc, List.cons_append]; exact rd56_app q1 (q2 ++ x :: s) y
    refine Ev.step (f := fun k => if x.f0.toList = y.f0.toList then some 5 else rf_Check.l3 k (p.length : Int) ((q1 ++ [y]).length : Int) a b c d its) (fun k => ?_) ?_
    · rw [rf_Check.l3, if_pos h1, if_pos (by omega), if_pos h2, if_pos (by omega), if_pos (by omega), hx, hy, wrn _ (by omega), len_snoc]
    · rw [List.any_cons]
      by_cases he : x.f0.toList = y.f0.toList
      · simp only [if_pos he, sameName, he, beq_self_eq_true, Bool.true_or, if_true]
        exact Ev.now _
      · have he' : (y.f0.toList == x.f0.toList) = false := beq_eq_false_iff_ne.2 (fun h => he h.symm)
        simp only [if_neg he, sameName, he', Bool.false_or]
        exact r3_ev a b c d its hi x s p hp R hn q2 (q1 ++ [y]) (by rw [← hq]; simp)
theorem r2_ev (a b c d : Int) (its : List S56) (hi : its.length < 1000000) : ∀ (s p : List S56), p ++ s = its → Ev (fun k => rf_Check.l2 k (p.length : Int) a b c d its) (if dup p s = true then 5 else 0)
  | [], p, hp => by
    refine Ev.const1 (fun k => ?_)
    rw [rf_Check.l2, if_neg (by rw [← hp]; simp)]
    rfl
  | x :: s, p, hp => by
    have h2 : (p.length : Int) < (its.length : Int) := by rw [← hp]; exact len_app p s x
    refine Ev.step (f := fun k => rf_Check.l3 k (p.length : Int) 0 a b c d its) (fun k => ?_) ?_
    · rw [rf_Check.l2, if_pos h2]
    · have ih := r2_ev a b c d its hi s (p ++ [x]) (by rw [← hp]; simp)
      rw [len_snoc] at ih
      refine Ev.eq (r3_ev a b c d its hi x s p hp _ ih p [] rfl) ?_
      rw [dup]
      cases p.any (fun y => sameName y x) <;> rfl
theorem r1_ev (n : S23) (d : Int) (its : List S56) (hi : its.length < 1000000) : ∀ (s p : List S56) (ok : Bool), p ++ s = its → Ev (fun k => rf_Check.l1 k ok (p.length : Int) n.f0 n.f1 n.f2 d its) (if (ok && s.all itOk) = true then (if dup [] its = true then 5 else 0) else 6)
  | [], p, ok, hp => by
    refine Ev.step (f := fun k => if ok = true then rf_Check.l2 k 0 n.f0 n.f1 n.f2 d its else some 6) (fun k => ?_) ?_
    · rw [rf_Check.l1, if_neg (by rw [← hp]; simp)]
    · cases ok
      · exact Ev.now _
      · exact r2_ev _ _ _ _ its hi its [] rfl
  | x :: s, p, ok, hp => by
    have h2 : (p.length : Int) < (its.length : Int) := by rw [← hp]; exact len_app p s x
    have hx : rd_T56 its (p.length : Int) = x := by rw [← hp]; exact rd56_app p s x
    have ih := fun ok => r1_ev n d its hi s (p ++ [x]) ok (by rw [← hp]; simp)
    simp only [len_snoc] at ih
    refine Ev.step (f := fun k => if ok = true then ((rf_sized.f k x.f1.f0 x.f1.f1 x.f1.f2).bind fun t257 => (if t257 = true then (if x.f2 ≥ 0 then (rf_Check.l1 k (decide (x.f2 ≤ 1000000000)) ((p.length : Int) + 1) n.f0 n.f1 n.f2 d its) else (rf_Check.l1 k false ((p.length : Int) + 1) n.f0 n.f1 n.f2 d its)) else (rf_Check.l1 k false ((p.length : Int) + 1) n.f0 n.f1 n.f2 d its))) else rf_Check.l1 k false ((p.length : Int) + 1) n.f0 n.f1 n.f2 d its) (fun k => ?_) ?_
    · rw [rf_Check.l1, if_pos h2, if_pos (show 0 ≤ (p.length : Int) by omega), hx, wrn _ (by omega)]
    · cases ok
      · simp only [Bool.false_eq_true, if_false, Bool.false_and]
        refine Ev.eq (ih false) ?_
        simp
      · simp only [if_true, Bool.true_and]
        refine Ev.bind (f := fun k t257 => if t257 = true then (if x.f2 ≥ 0 then (rf_Check.l1 k (decide (x.f2 ≤ 1000000000)) ((p.length : Int) + 1) n.f0 n.f1 n.f2 d its) else (rf_Check.l1 k false ((p.length : Int) + 1) n.f0 n.f1 n.f2 d its)) else (rf_Check.l1 k false ((p.length : Int) + 1) n.f0 n.f1 n.f2 d its)) (sized_ev x.f1) ?_
        rw [List.all_cons]
        unfold itOk
        cases pos3 x.f1
        · simp only [Bool.false_eq_true, if_false, Bool.false_and]
          refine Ev.eq (ih false) ?_
          simp
        · by_cases h0 : x.f2 ≥ 0
          · simp only [if_true, if_pos h0, Bool.true_and]
            refine Ev.eq (ih _) ?_
            rw [show decide (0 ≤ x.f2 ∧ x.f2 ≤ 1000000000) = decide (x.f2 ≤ 1000000000) from decide_eq_decide.2 ⟨fun h => h.2, fun h => ⟨h0, h⟩⟩]
            rfl
          · simp only [if_true, if_neg h0, Bool.true_and]
            refine Ev.eq (ih false) ?_
            rw [decide_eq_false (show ¬ (0 ≤ x.f2 ∧ x.f2 ≤ 1000000000) from fun h => h0 h.1)]
            simp
theorem r0_ev (n : S23) (d : Int) (its : List S56) (hi : its.length < 1000000) : ∀ (s p : List S56), p ++ s = its → Ev (fun k => rf_Check.l0 k (p.length : Int) n.f0 n.f1 n.f2 d its) (if s.any nameless = true then 4 else if (pos3 n && decide (0 ≤ d ∧ d ≤ 24) && its.all itOk) = true then (if dup [] its = true then 5 else 0) else 6)
  | [], p, hp => by
    refine Ev.step (f := fun k => (rf_sized.f k n.f0 n.f1 n.f2).bind fun t255 => (if t255 = true then (if d ≥ 0 then (rf_Check.j1 k (decide (d ≤ 24)) n.f0 n.f1 n.f2 d its) else (rf_Check.j1 k false n.f0 n.f1 n.f2 d its)) else (rf_Check.j1 k false n.f0 n.f1 n.f2 d its))) (fun k => ?_) ?_
    · rw [rf_Check.l0, if_neg (by rw [← hp]; simp)]
    · refine Ev.bind (f := fun k t255 => if t255 = true then (if d ≥ 0 then (rf_Check.j1 k (decide (d ≤ 24)) n.f0 n.f1 n.f2 d its) else (rf_Check.j1 k false n.f0 n.f1 n.f2 d its)) else (rf_Check.j1 k false n.f0 n.f1 n.f2 d its)) (sized_ev n) ?_
      have hj : ∀ ok, Ev (fun k => rf_Check.j1 k ok n.f0 n.f1 n.f2 d its) (if (ok && its.all itOk) = true then (if dup [] its = true then 5 else 0) else 6) := fun ok => Ev.step (f := fun k => rf_Check.l1 k ok 0 n.f0 n.f1 n.f2 d its) (fun k => rfl) (r1_ev n d its hi its [] ok rfl)
      cases pos3 n
      · simp only [Bool.false_eq_true, if_false, Bool.false_and]
        refine Ev.eq (hj false) ?_
        simp
      · by_cases h0 : d ≥ 0
        · simp only [if_true, if_pos h0, Bool.true_and]
          refine Ev.eq (hj _) ?_
          rw [show decide (0 ≤ d ∧ d ≤ 24) = decide (d ≤ 24) from decide_eq_decide.2 ⟨fun h => h.2, fun h => ⟨h0, h⟩⟩]
          rfl
        · simp only [if_true, if_neg h0, Bool.true_and]
          refine Ev.eq (hj false) ?_
          rw [decide_eq_false (show ¬ (0 ≤ d ∧ d ≤ 24) from fun h => h0 h.1)]
          simp
  | x :: s, p, hp => by
    have h2 : (p.length : Int) < (its.length : Int) := by rw [← hp]; exact len_app p s x
    have hx : rd_T56 its (p.length : Int) = x := by rw [← hp]; exact rd56_app p s x
    refine Ev.step (f := fun k => if x.f0.toList = ([] : List UInt8) then some 4 else rf_Check.l0 k ((p ++ [x]).length : Int) n.f0 n.f1 n.f2 d its) (fun k => ?_) ?_
    · rw [rf_Check.l0, if_pos h2, if_pos (by omega), hx, wrn _ (by omega), len_snoc]
    · rw [List.any_cons]
      by_cases he : x.f0.toList = []
      · simp only [if_pos he, nameless, he, beq_self_eq_true, Bool.true_or, if_true]
        exact Ev.now _
      · have he' : nameless x = false := beq_eq_false_iff_ne.2 he
        simp only [if_neg he, he', Bool.false_or]
        exact r0_ev n d its hi s (p ++ [x]) (by rw [← hp]; simp)
theorem rcheck_ev (n : S23) (kf : Int) (its : List S56) : Ev (fun k => rf_Check.f k n.f0 n.f1 n.f2 kf its) (chk n kf its) := by
  unfold rf_Check.f chk
  by_cases h6 : (its.length : Int) > 6
  · simp only [if_pos h6, if_pos (show its.length > 6 by omega)]
    exact Ev.now _
  · simp only [if_neg h6, if_neg (show ¬ its.length > 6 by omega)]
    exact r0_ev n kf its (by omega) its [] rfl
def small (n : S23) (kf : Int) (its : List S56) (m : Int) : Bool := decide (its.length ≤ 8) && (decide (chk n kf its ≠ 0) || decide (n.f0 ≤ m ∧ n.f1 ≤ m ∧ n.f2 ≤ m))
theorem small_ev (n : S23) (kf : Int) (its : List S56) (m : Int) : Ev (fun k => rf_Small.f k n.f0 n.f1 n.f2 kf its m) (small n kf its m) := by
  unfold rf_Small.f small
  by_cases h8 : (its.length : Int) > 8
  · simp only [if_pos h8, decide_eq_false (show ¬ its.length ≤ 8 by omega), Bool.false_and]
    exact Ev.now _
  · simp only [if_neg h8, decide_eq_true (show its.length ≤ 8 by omega), Bool.true_and]
    refine Ev.bind (f := fun k t263 => if t263 = 0 then (if n.f0 ≤ m then (if n.f1 ≤ m then (some (decide (n.f2 ≤ m))) else (some false)) else (some false)) else (some true)) (rcheck_ev n kf its) ?_
    refine Ev.const (fun k => ?_)
    by_cases hc : chk n kf its = 0
    · simp only [if_pos hc, hc, ne_eq, not_true_eq_false, decide_false, Bool.false_or]
      by_cases a : n.f0 ≤ m <;> by_cases b : n.f1 ≤ m <;> simp [a, b]
    · simp [hc]

def inB (n s : S23) : Prop := (1 ≤ s.f0 ∧ s.f0 ≤ n.f0) ∧ (1 ≤ s.f1 ∧ s.f1 ≤ n.f1) ∧ (1 ≤ s.f2 ∧ s.f2 ≤ n.f2)
def okN (n : S23) : Prop := (1 ≤ n.f0 ∧ n.f0 ≤ 24) ∧ (1 ≤ n.f1 ∧ n.f1 ≤ 24) ∧ (1 ≤ n.f2 ∧ n.f2 ≤ 24)
def ix (n s : S23) : Int := ((s.f2 - 1) * n.f1 + (s.f1 - 1)) * n.f0 + (s.f0 - 1)
def cnt (n : S23) : Int := n.f0 * n.f1 * n.f2
def sz (n : S23) (i : Int) : S23 := ⟨i % n.f0 + 1, i / n.f0 % n.f1 + 1, i / n.f0 / n.f1 + 1⟩
theorem S23.ext' {p q : S23} (h0 : p.f0 = q.f0) (h1 : p.f1 = q.f1) (h2 : p.f2 = q.f2) : p = q := by cases p; cases q; simp_all
theorem pos3_ok {n : S23} (h : pos3 n = true) : okN n := by
  unfold pos3 at h
  simp only [Bool.and_eq_true, decide_eq_true_eq] at h
  exact ⟨h.1.1, h.1.2, h.2⟩
theorem mix {a b m M : Int} (ha : 0 ≤ a) (hM : a ≤ M - 1) (hb : 0 ≤ b) (hm : b ≤ m - 1) : 0 ≤ a * m + b ∧ a * m + b ≤ M * m - 1 := by
  have h1 := Int.mul_nonneg ha (show 0 ≤ m by omega)
  have h2 := Int.mul_le_mul_of_nonneg_right hM (show 0 ≤ m by omega)
  rw [Int.sub_mul] at h2
  omega
theorem mul_le {a b A B : Int} (ha : 0 ≤ a) (hA : a ≤ A) (hb : 0 ≤ b) (hB : b ≤ B) : 0 ≤ a * b ∧ a * b ≤ A * B :=
  ⟨Int.mul_nonneg ha hb, Int.mul_le_mul hA hB hb (Int.le_trans ha hA)⟩
theorem cnt_le {n : S23} (hn : okN n) : 1 ≤ cnt n ∧ cnt n ≤ 13824 := by
  obtain ⟨h0, h1, h2⟩ := hn
  unfold cnt
  have a := mul_le (a := n.f0) (b := n.f1) (A := 24) (B := 24) (by omega) h0.2 (by omega) h1.2
  have b := mul_le (a := n.f0 * n.f1) (b := n.f2) (A := 24 * 24) (B := 24) a.1 a.2 (by omega) h2.2
  have c := Int.mul_le_mul h0.1 h1.1 (by decide) (show 0 ≤ n.f0 by omega)
  have d := Int.mul_le_mul c h2.1 (by decide) a.1
  omega
theorem ix_row {n s : S23} (hs : inB n s) : 0 ≤ (s.f2 - 1) * n.f1 + (s.f1 - 1) ∧ (s.f2 - 1) * n.f1 + (s.f1 - 1) ≤ n.f2 * n.f1 - 1 := mix (by have := hs; unfold inB at this; omega) (by have := hs; unfold inB at this; omega) (by have := hs; unfold inB at this; omega) (by have := hs; unfold inB at this; omega)
theorem ix_lt {n s : S23} (hs : inB n s) : 0 ≤ ix n s ∧ ix n s < cnt n := by
  have hr := ix_row hs
  have := mix (a := (s.f2 - 1) * n.f1 + (s.f1 - 1)) (b := s.f0 - 1) (m := n.f0) (M := n.f2 * n.f1) hr.1 (by omega) (by have := hs.1; omega) (by have := hs.1; omega)
  rw [show n.f2 * n.f1 * n.f0 = cnt n by unfold cnt; rw [Int.mul_comm n.f2 n.f1, Int.mul_comm (n.f1 * n.f2) n.f0, ← Int.mul_assoc]] at this
  unfold ix
  omega
theorem ixS_eq {n s : S23} (hn : okN n) (hs : inB n s) : ixS n.f0 n.f1 s = ix n s := by
  have hr := ix_row hs
  have hl := ix_lt hs
  have hc := cnt_le hn
  have hn' := hn
  unfold okN at hn'
  have h21 : 0 ≤ (s.f2 - 1) * n.f1 := Int.mul_nonneg (by have := hs.2.2; omega) (by omega)
  have hm := mul_le (a := n.f2) (b := n.f1) (A := 24) (B := 24) (by omega) (by omega) (by omega) (by omega)
  have hs' := hs
  unfold inB at hs'
  have hq : 0 ≤ ((s.f2 - 1) * n.f1 + (s.f1 - 1)) * n.f0 := Int.mul_nonneg hr.1 (by omega)
  unfold ix at hl ⊢
  unfold ixS
  rw [wr (x := s.f2 - 1) (by omega), wr (x := (s.f2 - 1) * n.f1) (by omega), wr (x := (s.f2 - 1) * n.f1 + s.f1) (by omega), wr (x := (s.f2 - 1) * n.f1 + s.f1 - 1) (by omega),
    show (s.f2 - 1) * n.f1 + s.f1 - 1 = (s.f2 - 1) * n.f1 + (s.f1 - 1) by omega, wr (x := ((s.f2 - 1) * n.f1 + (s.f1 - 1)) * n.f0) (by omega),
    wr (x := ((s.f2 - 1) * n.f1 + (s.f1 - 1)) * n.f0 + s.f0) (by omega), wr (by omega)]
  omega
theorem sz_inB {n : S23} (hn : okN n) {i : Int} (h0 : 0 ≤ i) (h1 : i < cnt n) : inB n (sz n i) := by
  have hn' := hn
  unfold okN at hn'
  have a := Int.emod_nonneg i (show n.f0 ≠ 0 by omega)
  have b := Int.emod_lt_of_pos i (show 0 < n.f0 by omega)
  have c := Int.emod_nonneg (i / n.f0) (show n.f1 ≠ 0 by omega)
  have d := Int.emod_lt_of_pos (i / n.f0) (show 0 < n.f1 by omega)
  have e : 0 ≤ i / n.f0 := Int.ediv_nonneg h0 (by omega)
  have f : 0 ≤ i / n.f0 / n.f1 := Int.ediv_nonneg e (by omega)
  have g : i / n.f0 / n.f1 < n.f2 := by
    rw [Int.ediv_lt_iff_lt_mul (by omega), Int.ediv_lt_iff_lt_mul (by omega)]
    have : n.f2 * n.f1 * n.f0 = cnt n := by unfold cnt; rw [Int.mul_comm n.f2 n.f1, Int.mul_comm (n.f1 * n.f2) n.f0, ← Int.mul_assoc]
    omega
  unfold inB sz
  refine ⟨⟨?_, ?_⟩, ⟨?_, ?_⟩, ?_, ?_⟩ <;> dsimp only <;> omega
theorem ix_sz (n : S23) (i : Int) : ix n (sz n i) = i := by
  unfold ix sz
  dsimp only
  have a := Int.mul_ediv_add_emod (i / n.f0) n.f1
  have b := Int.mul_ediv_add_emod i n.f0
  rw [show i / n.f0 / n.f1 + 1 - 1 = i / n.f0 / n.f1 by omega, show i / n.f0 % n.f1 + 1 - 1 = i / n.f0 % n.f1 by omega, Int.mul_comm, Int.mul_comm _ n.f1, a]
  omega
theorem sz_ix {n s : S23} (hs : inB n s) : sz n (ix n s) = s := by
  have hs' := hs
  unfold inB at hs'
  have hp0 : n.f0 ≠ 0 := by omega
  have hp1 : n.f1 ≠ 0 := by omega
  have a : ix n s / n.f0 = (s.f2 - 1) * n.f1 + (s.f1 - 1) := by
    unfold ix
    rw [Int.add_comm, Int.add_mul_ediv_right _ _ hp0, Int.ediv_eq_zero_of_lt (by omega) (by omega)]
    omega
  have b : ix n s % n.f0 = s.f0 - 1 := by
    unfold ix
    rw [Int.add_comm, Int.add_mul_emod_self_right, Int.emod_eq_of_lt (by omega) (by omega)]
  have c : ((s.f2 - 1) * n.f1 + (s.f1 - 1)) / n.f1 = s.f2 - 1 := by
    rw [Int.add_comm, Int.add_mul_ediv_right _ _ hp1, Int.ediv_eq_zero_of_lt (by omega) (by omega)]
    omega
  have d : ((s.f2 - 1) * n.f1 + (s.f1 - 1)) % n.f1 = s.f1 - 1 := by
    rw [Int.add_comm, Int.add_mul_emod_self_right, Int.emod_eq_of_lt (by omega) (by omega)]
  unfold sz
  rw [a, b, c, d]
  exact S23.ext' (show s.f0 - 1 + 1 = s.f0 by omega) (show s.f1 - 1 + 1 = s.f1 by omega) (show s.f2 - 1 + 1 = s.f2 by omega)
theorem size_eq {n : S23} (hn : okN n) (kf : Int) (its : List S56) {i : Int} (h0 : 0 ≤ i) (h1 : i < cnt n) : boxpack_Problem_size.f n.f0 n.f1 n.f2 kf its i = some ((sz n i).f0, (sz n i).f1, (sz n i).f2) := by
  have hb := sz_inB hn h0 h1
  have hn' := hn
  unfold okN at hn'
  unfold inB at hb
  have e : 0 ≤ i / n.f0 := Int.ediv_nonneg h0 (by omega)
  have e2 : i / n.f0 ≤ i := Int.ediv_le_self _ h0
  have hc := cnt_le hn
  unfold boxpack_Problem_size.f
  rw [if_neg (by omega), if_neg (by omega), Int.tmod_eq_emod_of_nonneg h0, Int.tdiv_eq_ediv_of_nonneg h0, wr (x := i / n.f0) (by omega), Int.tmod_eq_emod_of_nonneg e, Int.tdiv_eq_ediv_of_nonneg e]
  unfold sz at hb ⊢
  dsimp only at hb ⊢
  rw [wr (x := i / n.f0 / n.f1) (by omega), wr (by omega), wr (by omega), wr (by omega)]
theorem rsize_eq {n : S23} (hn : okN n) (kf : Int) (its : List S56) {i : Int} (h0 : 0 ≤ i) (h1 : i < cnt n) : rf_size.f n.f0 n.f1 n.f2 kf its i = some ((sz n i).f0, (sz n i).f1, (sz n i).f2) := by
  have hb := sz_inB hn h0 h1
  have hn' := hn
  unfold okN at hn'
  unfold inB at hb
  have e : 0 ≤ i / n.f0 := Int.ediv_nonneg h0 (by omega)
  have e2 : i / n.f0 ≤ i := Int.ediv_le_self _ h0
  have hc := cnt_le hn
  have m := mul_le (a := n.f0) (b := n.f1) (A := 24) (B := 24) (by omega) (by omega) (by omega) (by omega)
  have m1 := Int.mul_le_mul hn'.1.1 hn'.2.1.1 (by decide) (show 0 ≤ n.f0 by omega)
  unfold rf_size.f
  rw [wr (x := n.f0 * n.f1) (by omega), if_neg (by omega), if_neg (by omega), if_neg (by omega), Int.tmod_eq_emod_of_nonneg h0, Int.tdiv_eq_ediv_of_nonneg h0, Int.tdiv_eq_ediv_of_nonneg h0, wr (x := i / n.f0) (by omega), Int.tmod_eq_emod_of_nonneg e, ← Int.ediv_ediv_of_nonneg (by omega)]
  unfold sz at hb ⊢
  dsimp only at hb ⊢
  rw [wr (x := i / n.f0 / n.f1) (by omega), wr (by omega), wr (by omega), wr (by omega)]

theorem set_of (s : S23) (ax v : Int) (ha : 0 ≤ ax ∧ ax ≤ 2) : (setAx s ax v = ⟨v, s.f1, s.f2⟩ ∧ getAx s ax = s.f0) ∨ (setAx s ax v = ⟨s.f0, v, s.f2⟩ ∧ getAx s ax = s.f1) ∨ (setAx s ax v = ⟨s.f0, s.f1, v⟩ ∧ getAx s ax = s.f2) := by
  have h1 : ax = 0 ∨ ax = 1 ∨ ax = 2 := by omega
  rcases h1 with rfl | rfl | rfl
  · exact Or.inl ⟨rfl, rfl⟩
  · exact Or.inr (Or.inl ⟨rfl, rfl⟩)
  · exact Or.inr (Or.inr ⟨rfl, rfl⟩)
def ctA (kf : Int) (s : S23) (ax pos : Int) : Ct := ⟨ax, pos, setAx s ax pos, setAx s ax (getAx s ax - pos - kf)⟩
theorem mem_cutsA {kf : Int} {s : S23} {ax : Int} {c : Ct} : c ∈ cutsA kf s ax ↔ ∃ pos, 1 ≤ pos ∧ pos + kf < getAx s ax ∧ c = ctA kf s ax pos := by
  unfold cutsA ctA
  simp only [List.mem_map, List.mem_range]
  constructor
  · rintro ⟨i, hi, rfl⟩
    exact ⟨(i : Int) + 1, by omega, by omega, rfl⟩
  · rintro ⟨pos, h1, h2, rfl⟩
    refine ⟨(pos - 1).toNat, by omega, ?_⟩
    rw [show (((pos - 1).toNat : Nat) : Int) + 1 = pos by omega]
theorem mem_cutsL {kf : Int} {s : S23} {c : Ct} : c ∈ cutsL kf s ↔ ∃ ax pos, (0 ≤ ax ∧ ax ≤ 2) ∧ 1 ≤ pos ∧ pos + kf < getAx s ax ∧ c = ctA kf s ax pos := by
  unfold cutsL
  simp only [List.mem_append, mem_cutsA]
  constructor
  · rintro (⟨p, h⟩ | ⟨p, h⟩ | ⟨p, h⟩)
    · exact ⟨0, p, by decide, h⟩
    · exact ⟨1, p, by decide, h⟩
    · exact ⟨2, p, by decide, h⟩
  · rintro ⟨ax, p, ha, h⟩
    have h1 : ax = 0 ∨ ax = 1 ∨ ax = 2 := by omega
    rcases h1 with rfl | rfl | rfl
    · exact Or.inl ⟨p, h⟩
    · exact Or.inr (Or.inl ⟨p, h⟩)
    · exact Or.inr (Or.inr ⟨p, h⟩)
theorem set_inB {n s : S23} (hs : inB n s) {ax v : Int} (ha : 0 ≤ ax ∧ ax ≤ 2) (h1 : 1 ≤ v) (h2 : v ≤ getAx s ax) : inB n (setAx s ax v) := by
  unfold inB at hs ⊢
  rcases set_of s ax v ha with ⟨e, g⟩ | ⟨e, g⟩ | ⟨e, g⟩ <;> rw [e] <;> dsimp only <;> omega
theorem set_ix {n s : S23} (hn : okN n) {ax v : Int} (ha : 0 ≤ ax ∧ ax ≤ 2) (h2 : v < getAx s ax) : ix n (setAx s ax v) < ix n s := by
  unfold okN at hn
  have key : ∀ a b m : Int, a < b → 1 ≤ m → a * m < b * m := fun a b m h hm => Int.mul_lt_mul_of_pos_right h (by omega)
  unfold ix
  rcases set_of s ax v ha with ⟨e, g⟩ | ⟨e, g⟩ | ⟨e, g⟩ <;> rw [e] <;> dsimp only
  · omega
  · have := key ((s.f2 - 1) * n.f1 + (v - 1)) ((s.f2 - 1) * n.f1 + (s.f1 - 1)) n.f0 (by omega) (by omega)
    omega
  · have h3 := key (v - 1) (s.f2 - 1) n.f1 (by omega) (by omega)
    have := key ((v - 1) * n.f1 + (s.f1 - 1)) ((s.f2 - 1) * n.f1 + (s.f1 - 1)) n.f0 (by omega) (by omega)
    omega
theorem cut_in {n s : S23} {kf : Int} (hn : okN n) (hs : inB n s) (hk : 0 ≤ kf) {c : Ct} (hc : c ∈ cutsL kf s) : (inB n c.l ∧ ix n c.l < ix n s) ∧ (inB n c.r ∧ ix n c.r < ix n s) := by
  obtain ⟨ax, pos, ha, h1, h2, rfl⟩ := mem_cutsL.1 hc
  exact ⟨⟨set_inB hs ha h1 (by omega), set_ix hn ha (by omega)⟩, ⟨set_inB hs ha (by omega) (by omega), set_ix hn ha (by omega)⟩⟩
theorem cut_ok {n s : S23} {kf : Int} {tb : List Int} (hn : okN n) (hs : inB n s) (hk : 0 ≤ kf ∧ kf ≤ 24) (ht : (tb.length : Int) = cnt n) : cutOk n.f0 n.f1 kf tb s = true := by
  unfold cutOk
  rw [Bool.and_eq_true, List.all_eq_true]
  have hn' := hn
  have hs' := hs
  unfold okN at hn'
  unfold inB at hs'
  refine ⟨decide_eq_true (by omega), fun c hc => ?_⟩
  obtain ⟨⟨hl, _⟩, hr, _⟩ := cut_in hn hs hk.1 hc
  have a := ix_lt hl
  have b := ix_lt hr
  unfold ixOk
  rw [ixS_eq hn hl, ixS_eq hn hr]
  simp only [Bool.and_eq_true, decide_eq_true_eq]
  omega
def itemsV (s : S23) (its : List S56) (v : Int) : Int := its.foldl (fun v x => if fitsB x.f1 s = true then mx v x.f2 else v) v
def needV (n : S23) (kf : Int) (its : List S56) (tb : List Int) (s : S23) : Int := (cutsL kf s).foldl (fun v c => mx v (both n.f0 n.f1 tb c)) (itemsV s its 0)
theorem fitsf (a b : S23) : boxpack_fits.f a.f0 a.f1 a.f2 b.f0 b.f1 b.f2 = some (fitsB a b) := by
  unfold boxpack_fits.f fitsB
  by_cases h0 : a.f0 ≤ b.f0 <;> by_cases h1 : a.f1 ≤ b.f1 <;> simp [h0, h1]
theorem rfitsf (a b : S23) : rf_Fits.f a.f0 a.f1 a.f2 b.f0 b.f1 b.f2 = some (fitsB a b) := by
  unfold rf_Fits.f fitsB
  by_cases h0 : a.f0 ≤ b.f0 <;> by_cases h1 : a.f1 ≤ b.f1 <;> simp [h0, h1]
theorem leastl_ev {n s : S23} {kf : Int} (its : List S56) {tb : List Int} (hn : okN n) (hs : inB n s) (hk : 0 ≤ kf ∧ kf ≤ 24) (hi : its.length < 1000000) (ht : (tb.length : Int) = cnt n) : ∀ (q p : List S56) (v : Int), p ++ q = its →
    Ev (fun k => boxpack_Problem_least.l0 k its (its.length : Int) (p.length : Int) n.f0 n.f1 n.f2 kf its tb s.f0 s.f1 s.f2 v) ((cutsL kf s).foldl (fun v c => mx v (both n.f0 n.f1 tb c)) (itemsV s q v))
  | [], p, v, hp => by
    refine Ev.const1 (fun k => ?_)
    rw [boxpack_Problem_least.l0, if_neg (by rw [← hp]; simp), cutv, show (⟨s.f0, s.f1, s.f2⟩ : S23) = s from rfl, if_pos (cut_ok hn hs hk ht)]
    rfl
  | x :: q, p, v, hp => by
    have h2 : (p.length : Int) < (its.length : Int) := by rw [← hp]; exact len_app p q x
    have hx : rd_T56 its (p.length : Int) = x := by rw [← hp]; exact rd56_app p q x
    have ih := leastl_ev its hn hs hk hi ht q (p ++ [x]) (if fitsB x.f1 s = true then mx v x.f2 else v) (by rw [← hp]; simp)
    rw [len_snoc] at ih
    refine Ev.step (f := fun k => boxpack_Problem_least.l0 k its (its.length : Int) ((p.length : Int) + 1) n.f0 n.f1 n.f2 kf its tb s.f0 s.f1 s.f2 (if fitsB x.f1 s = true then mx v x.f2 else v)) (fun k => ?_) ih
    rw [boxpack_Problem_least.l0, if_pos h2, if_pos (by omega), if_pos h2, hx, wrn _ (by omega)]
    simp only [boxpack_sides.f, Option.bind_some]
    rw [fitsf x.f1 s]
    simp only [Option.bind_some]
    cases fitsB x.f1 s <;> rfl
theorem least_ev {n s : S23} {kf : Int} (its : List S56) {tb : List Int} (hn : okN n) (hs : inB n s) (hk : 0 ≤ kf ∧ kf ≤ 24) (hi : its.length < 1000000) (ht : (tb.length : Int) = cnt n) :
    Ev (fun k => boxpack_Problem_least.f k n.f0 n.f1 n.f2 kf its tb s.f0 s.f1 s.f2) (needV n kf its tb s) := leastl_ev its hn hs hk hi ht its [] 0 rfl
theorem with_eq (s : S23) (ax v : Int) (ha : 0 ≤ ax ∧ ax ≤ 2) : rf_with.f s.f0 s.f1 s.f2 ax v = some ((setAx s ax v).f0, (setAx s ax v).f1, (setAx s ax v).f2) := by
  have h1 : ax = 0 ∨ ax = 1 ∨ ax = 2 := by omega
  rcases h1 with rfl | rfl | rfl <;> rfl
theorem index_eq {n s : S23} (kf : Int) (its : List S56) (hn : okN n) (hs : inB n s) : rf_index.f n.f0 n.f1 n.f2 kf its s.f0 s.f1 s.f2 = some (ix n s) := by
  rw [← ixS_eq hn hs]; rfl
theorem get_inB {n s : S23} (hn : okN n) (hs : inB n s) {ax : Int} (ha : 0 ≤ ax ∧ ax ≤ 2) : 1 ≤ getAx s ax ∧ getAx s ax ≤ 24 := by
  unfold okN at hn
  unfold inB at hs
  rcases set_of s ax 0 ha with ⟨_, g⟩ | ⟨_, g⟩ | ⟨_, g⟩ <;> rw [g] <;> omega
theorem need2_ev {n s : S23} {kf : Int} (its : List S56) {tb : List Int} (hn : okN n) (hs : inB n s) (hk : 0 ≤ kf ∧ kf ≤ 24) (ht : (tb.length : Int) = cnt n) {ax : Int} (ha : 0 ≤ ax ∧ ax ≤ 2) (R : Int) : ∀ (m : Nat) (pos v : Int), (getAx s ax - kf - pos).toNat ≤ m → 1 ≤ pos → pos ≤ 24 →
    Ev (fun k => rf_need.l1 k tb (((cutsA kf s ax).drop (pos - 1).toNat).foldl (fun v c => mx v (both n.f0 n.f1 tb c)) v) (ax + 1) n.f0 n.f1 n.f2 kf its s.f0 s.f1 s.f2) R →
    Ev (fun k => rf_need.l2 k tb v ax pos n.f0 n.f1 n.f2 kf its s.f0 s.f1 s.f2) R
  | m, pos, v, hm, h1, h24, hR => by
    have hg := get_inB hn hs ha
    by_cases hc : pos + kf < getAx s ax
    · match m with
      | 0 => omega
      | m + 1 =>
        have hin : (inB n (setAx s ax pos) ∧ ix n (setAx s ax pos) < ix n s) ∧ (inB n (setAx s ax (getAx s ax - pos - kf)) ∧ ix n (setAx s ax (getAx s ax - pos - kf)) < ix n s) := cut_in hn hs hk.1 (mem_cutsL.2 ⟨ax, pos, ha, h1, hc, rfl⟩)
        have il := ix_lt hin.1.1
        have ir := ix_lt hin.2.1
        rw [cutsA_step kf s ax pos h1 hc, List.foldl_cons] at hR
        have ih := need2_ev its hn hs hk ht ha R m (pos + 1) (mx v (both n.f0 n.f1 tb (ctA kf s ax pos))) (by omega) (by omega) (by omega) (by rw [show pos + 1 - 1 = pos by omega]; exact hR)
        refine Ev.step (f := fun k => rf_need.l2 k tb (mx v (both n.f0 n.f1 tb (ctA kf s ax pos))) ax (pos + 1) n.f0 n.f1 n.f2 kf its s.f0 s.f1 s.f2) (fun k => ?_) ih
        rw [rf_need.l2, side_eq s ax ha, wr (x := pos + kf) (by omega)]
        simp only [Option.bind_some]
        rw [if_pos hc, with_eq s ax pos ha]
        simp only [Option.bind_some]
        rw [wr (x := getAx s ax - pos) (by omega), wr (x := getAx s ax - pos - kf) (by omega), with_eq s ax _ ha]
        simp only [Option.bind_some]
        rw [index_eq kf its hn hin.1.1]
        simp only [Option.bind_some]
        rw [if_pos il.1, if_pos (by omega), index_eq kf its hn hin.2.1]
        simp only [Option.bind_some]
        rw [if_pos ir.1, if_pos (by omega), wr (x := pos + 1) (by omega)]
        show _ = rf_need.l2 k tb (mx v (wrap64 (rd tb (ixS n.f0 n.f1 (setAx s ax pos)) + rd tb (ixS n.f0 n.f1 (setAx s ax (getAx s ax - pos - kf)))))) ax (pos + 1) n.f0 n.f1 n.f2 kf its s.f0 s.f1 s.f2
        rw [ixS_eq hn hin.1.1, ixS_eq hn hin.2.1]
    · rw [cutsA_end kf s ax pos h1 hc] at hR
      refine Ev.step (f := fun k => rf_need.l1 k tb v (ax + 1) n.f0 n.f1 n.f2 kf its s.f0 s.f1 s.f2) (fun k => ?_) hR
      rw [rf_need.l2, side_eq s ax ha, wr (x := pos + kf) (by omega)]
      simp only [Option.bind_some]
      rw [if_neg hc, wr (x := ax + 1) (by omega)]
theorem need1_ev {n s : S23} {kf : Int} (its : List S56) {tb : List Int} (hn : okN n) (hs : inB n s) (hk : 0 ≤ kf ∧ kf ≤ 24) (ht : (tb.length : Int) = cnt n) (v : Int) : Ev (fun k => rf_need.l1 k tb v 0 n.f0 n.f1 n.f2 kf its s.f0 s.f1 s.f2) ((cutsL kf s).foldl (fun v c => mx v (both n.f0 n.f1 tb c)) v) := by
  have h := fun (ax : Int) (ha : 0 ≤ ax ∧ ax ≤ 2) (v R : Int) (hR : Ev (fun k => rf_need.l1 k tb ((cutsA kf s ax).foldl (fun v c => mx v (both n.f0 n.f1 tb c)) v) (ax + 1) n.f0 n.f1 n.f2 kf its s.f0 s.f1 s.f2) R) =>
    Ev.step (g := fun k => rf_need.l1 k tb v ax n.f0 n.f1 n.f2 kf its s.f0 s.f1 s.f2) (fun k => by rw [rf_need.l1, if_pos (by omega)]) (need2_ev its hn hs hk ht ha R _ 1 v (Nat.le_refl _) (by decide) (by decide) hR)
  unfold cutsL
  rw [List.foldl_append, List.foldl_append]
  refine h 0 (by decide) _ _ (h 1 (by decide) _ _ (h 2 (by decide) _ _ ?_))
  refine Ev.const1 (fun k => ?_)
  rw [rf_need.l1, if_neg (by decide)]
theorem need0_ev {n s : S23} {kf : Int} (its : List S56) {tb : List Int} (hn : okN n) (hs : inB n s) (hk : 0 ≤ kf ∧ kf ≤ 24) (hi : its.length < 1000000) (ht : (tb.length : Int) = cnt n) : ∀ (q p : List S56) (v : Int), p ++ q = its →
    Ev (fun k => rf_need.l0 k tb v (p.length : Int) n.f0 n.f1 n.f2 kf its s.f0 s.f1 s.f2) ((cutsL kf s).foldl (fun v c => mx v (both n.f0 n.f1 tb c)) (itemsV s q v))
  | [], p, v, hp => by
    refine Ev.step (f := fun k => rf_need.l1 k tb v 0 n.f0 n.f1 n.f2 kf its s.f0 s.f1 s.f2) (fun k => ?_) (need1_ev its hn hs hk ht v)
    rw [rf_need.l0, if_neg (by rw [← hp]; simp)]
  | x :: q, p, v, hp => by
    have h2 : (p.length : Int) < (its.length : Int) := by rw [← hp]; exact len_app p q x
    have hx : rd_T56 its (p.length : Int) = x := by rw [← hp]; exact rd56_app p q x
    have ih := need0_ev its hn hs hk hi ht q (p ++ [x]) (if fitsB x.f1 s = true then mx v x.f2 else v) (by rw [← hp]; simp)
    rw [len_snoc] at ih
    refine Ev.step (f := fun k => rf_need.l0 k tb (if fitsB x.f1 s = true then mx v x.f2 else v) ((p.length : Int) + 1) n.f0 n.f1 n.f2 kf its s.f0 s.f1 s.f2) (fun k => ?_) ih
    rw [rf_need.l0, if_pos h2, if_pos (by omega), hx, wrn _ (by omega), rfitsf x.f1 s]
    simp only [Option.bind_some]
    cases fitsB x.f1 s <;> rfl
theorem need_ev {n s : S23} {kf : Int} (its : List S56) {tb : List Int} (hn : okN n) (hs : inB n s) (hk : 0 ≤ kf ∧ kf ≤ 24) (hi : its.length < 1000000) (ht : (tb.length : Int) = cnt n) :
    Ev (fun k => rf_need.f k n.f0 n.f1 n.f2 kf its tb s.f0 s.f1 s.f2) (needV n kf its tb s) := need0_ev its hn hs hk hi ht its [] 0 rfl

def tabGo (n : S23) (kf : Int) (its : List S56) : Nat → Nat → List Int → List Int
  | 0, _, tb => tb
  | m + 1, i, tb => tabGo n kf its m (i + 1) (tb.set i (needV n kf its tb (sz n i)))
def tabT (n : S23) (kf : Int) (its : List S56) : List Int := tabGo n kf its (cnt n).toNat 0 (List.replicate (cnt n).toNat 0)
theorem chk_ok {n : S23} {kf : Int} {its : List S56} (h : chk n kf its = 0) : okN n ∧ (0 ≤ kf ∧ kf ≤ 24) ∧ its.length ≤ 6 ∧ its.all itOk = true ∧ dup [] its = false := by
  unfold chk at h
  by_cases h6 : its.length > 6
  · rw [if_pos h6] at h; omega
  rw [if_neg h6] at h
  cases h1 : its.any nameless <;> rw [h1] at h
  · simp only [Bool.false_eq_true, if_false] at h
    cases h2 : (pos3 n && decide (0 ≤ kf ∧ kf ≤ 24) && its.all itOk) <;> rw [h2] at h
    · simp at h
    · simp only [if_true] at h
      simp only [Bool.and_eq_true, decide_eq_true_eq] at h2
      refine ⟨pos3_ok h2.1.1, h2.1.2, by omega, h2.2, ?_⟩
      cases h3 : dup [] its
      · rfl
      · rw [h3] at h; simp at h
  · simp at h
theorem count_eq {n : S23} (hn : okN n) (kf : Int) (its : List S56) : boxpack_Problem_count.f n.f0 n.f1 n.f2 kf its = some (cnt n) := by
  have hc := cnt_le hn
  have hn' := hn
  unfold okN at hn'
  have m := mul_le (a := n.f0) (b := n.f1) (A := 24) (B := 24) (by omega) (by omega) (by omega) (by omega)
  unfold boxpack_Problem_count.f
  rw [wr (x := n.f0 * n.f1) (by omega)]
  unfold cnt at hc ⊢
  rw [wr (by omega)]
theorem rcount_eq {n : S23} (hn : okN n) (kf : Int) (its : List S56) : rf_count.f n.f0 n.f1 n.f2 kf its = some (cnt n) := count_eq hn kf its
theorem tabl_ev {n : S23} {kf : Int} {its : List S56} (hn : okN n) (hk : 0 ≤ kf ∧ kf ≤ 24) (hi : its.length < 1000000) : ∀ (m i : Nat) (tb : List Int), (tb.length : Int) = cnt n → i + m = (cnt n).toNat →
    Ev (fun k => boxpack_Problem_table.l0 k tb (cnt n) (i : Int) n.f0 n.f1 n.f2 kf its) (tabGo n kf its m i tb)
  | 0, i, tb, ht, hm => by
    have hc := cnt_le hn
    refine Ev.const1 (fun k => ?_)
    rw [boxpack_Problem_table.l0, if_neg (by omega)]
    rfl
  | m + 1, i, tb, ht, hm => by
    have hc := cnt_le hn
    have h0 : (0 : Int) ≤ (i : Int) := by omega
    have h1 : (i : Int) < cnt n := by omega
    have ih := tabl_ev hn hk hi m (i + 1) (tb.set i (needV n kf its tb (sz n i))) (by rw [List.length_set]; exact ht) (by omega)
    refine Ev.step (f := fun k => (boxpack_Problem_least.f k n.f0 n.f1 n.f2 kf its tb (sz n i).f0 (sz n i).f1 (sz n i).f2).bind fun t164 => boxpack_Problem_table.l0 k (tb.set i t164) (cnt n) (((i + 1 : Nat)) : Int) n.f0 n.f1 n.f2 kf its) (fun k => ?_) ?_
    · rw [boxpack_Problem_table.l0, if_pos h1, size_eq hn kf its h0 h1, wrn i (by omega)]
      simp only [Option.bind_some]
      congr 1
      funext t
      rw [if_pos h0, if_pos (by omega), Int.toNat_natCast]
      rfl
    · exact Ev.bind (f := fun k t164 => boxpack_Problem_table.l0 k (tb.set i t164) (cnt n) (((i + 1 : Nat)) : Int) n.f0 n.f1 n.f2 kf its) (least_ev its hn (sz_inB hn h0 h1) hk hi ht) ih
theorem table_ev {n : S23} {kf : Int} {its : List S56} (hn : okN n) (hk : 0 ≤ kf ∧ kf ≤ 24) (hi : its.length < 1000000) : Ev (fun k => boxpack_Problem_table.f k n.f0 n.f1 n.f2 kf its) (tabT n kf its) := by
  have hc := cnt_le hn
  refine Ev.congr (f := fun k => boxpack_Problem_table.l0 k (List.replicate (cnt n).toNat 0) (cnt n) ((0 : Nat) : Int) n.f0 n.f1 n.f2 kf its) (fun k => ?_) (tabl_ev hn hk hi (cnt n).toNat 0 _ (by simp; omega) (by omega))
  show boxpack_Problem_table.f k n.f0 n.f1 n.f2 kf its = _
  unfold boxpack_Problem_table.f
  rw [count_eq hn]
  simp only [Option.bind_some]
  rw [if_pos (by omega), if_pos (by omega), List.length_replicate, show (((cnt n).toNat : Nat) : Int) = cnt n by omega]
  rfl
theorem rtabl_ev {n : S23} {kf : Int} {its : List S56} (hn : okN n) (hk : 0 ≤ kf ∧ kf ≤ 24) (hi : its.length < 1000000) : ∀ (m i : Nat) (tb : List Int), (tb.length : Int) = cnt n → i + m = (cnt n).toNat →
    Ev (fun k => rf_Table.l0 k tb (i : Int) n.f0 n.f1 n.f2 kf its) (tabGo n kf its m i tb)
  | 0, i, tb, ht, hm => by
    have hc := cnt_le hn
    refine Ev.const1 (fun k => ?_)
    rw [rf_Table.l0, if_neg (by omega)]
    rfl
  | m + 1, i, tb, ht, hm => by
    have hc := cnt_le hn
    have h0 : (0 : Int) ≤ (i : Int) := by omega
    have h1 : (i : Int) < cnt n := by omega
    have ih := rtabl_ev hn hk hi m (i + 1) (tb.set i (needV n kf its tb (sz n i))) (by rw [List.length_set]; exact ht) (by omega)
    refine Ev.step (f := fun k => (rf_need.f k n.f0 n.f1 n.f2 kf its tb (sz n i).f0 (sz n i).f1 (sz n i).f2).bind fun t164 => rf_Table.l0 k (tb.set i t164) (((i + 1 : Nat)) : Int) n.f0 n.f1 n.f2 kf its) (fun k => ?_) ?_
    · rw [rf_Table.l0, if_pos (by omega), rsize_eq hn kf its h0 h1, wrn i (by omega)]
      simp only [Option.bind_some]
      congr 1
    · exact Ev.bind (f := fun k t164 => rf_Table.l0 k (tb.set i t164) (((i + 1 : Nat)) : Int) n.f0 n.f1 n.f2 kf its) (need_ev its hn (sz_inB hn h0 h1) hk hi ht) ih
theorem rtable_ev {n : S23} {kf : Int} {its : List S56} (hn : okN n) (hk : 0 ≤ kf ∧ kf ≤ 24) (hi : its.length < 1000000) : Ev (fun k => rf_Table.f k n.f0 n.f1 n.f2 kf its) (tabT n kf its) := by
  have hc := cnt_le hn
  refine Ev.congr (f := fun k => rf_Table.l0 k (List.replicate (cnt n).toNat 0) ((0 : Nat) : Int) n.f0 n.f1 n.f2 kf its) (fun k => ?_) (rtabl_ev hn hk hi (cnt n).toNat 0 _ (by simp; omega) (by omega))
  show rf_Table.f k n.f0 n.f1 n.f2 kf its = _
  unfold rf_Table.f
  rw [rcount_eq hn]
  simp only [Option.bind_some]
  rw [if_pos (by omega), if_pos (by omega)]
  rfl
theorem tabGo_len (n : S23) (kf : Int) (its : List S56) : ∀ (m i : Nat) (tb : List Int), (tabGo n kf its m i tb).length = tb.length
  | 0, _, _ => rfl
  | m + 1, i, tb => by rw [tabGo, tabGo_len n kf its m, List.length_set]
theorem tabT_len (n : S23) (kf : Int) (its : List S56) : (tabT n kf its).length = (cnt n).toNat := by
  unfold tabT
  rw [tabGo_len, List.length_replicate]

theorem mx_or (a b : Int) : mx a b = a ∨ mx a b = b := by unfold mx; by_cases h : a < b <;> simp [h]
theorem items_mem (s : S23) : ∀ (its : List S56) (u : Int), itemsV s its u = u ∨ ∃ x ∈ its, fitsB x.f1 s = true ∧ x.f2 = itemsV s its u
  | [], u => Or.inl rfl
  | x :: q, u => by
    have ih := items_mem s q (if fitsB x.f1 s = true then mx u x.f2 else u)
    show itemsV s q (if fitsB x.f1 s = true then mx u x.f2 else u) = u ∨ ∃ y ∈ x :: q, fitsB y.f1 s = true ∧ y.f2 = itemsV s q (if fitsB x.f1 s = true then mx u x.f2 else u)
    rcases ih with e | ⟨y, hy, e⟩
    · rw [e]
      cases h : fitsB x.f1 s
      · exact Or.inl rfl
      · simp only [if_true]
        rcases mx_or u x.f2 with e | e
        · exact Or.inl e
        · exact Or.inr ⟨x, List.mem_cons_self, h, e.symm⟩
    · exact Or.inr ⟨y, List.mem_cons_of_mem _ hy, e⟩
theorem cuts_mem (g : Ct → Int) : ∀ (l : List Ct) (u : Int), l.foldl (fun v c => mx v (g c)) u = u ∨ ∃ c ∈ l, g c = l.foldl (fun v c => mx v (g c)) u
  | [], u => Or.inl rfl
  | x :: q, u => by
    rw [List.foldl_cons]
    rcases cuts_mem g q (mx u (g x)) with e | ⟨c, hc, e⟩
    · rw [e]
      rcases mx_or u (g x) with e | e
      · exact Or.inl e
      · exact Or.inr ⟨x, List.mem_cons_self, e.symm⟩
    · exact Or.inr ⟨c, List.mem_cons_of_mem _ hc, e⟩
theorem cuts_congr (g g' : Ct → Int) : ∀ (l : List Ct) (u : Int), (∀ c ∈ l, g c = g' c) → l.foldl (fun v c => mx v (g c)) u = l.foldl (fun v c => mx v (g' c)) u
  | [], u, _ => rfl
  | x :: q, u, h => by
    rw [List.foldl_cons, List.foldl_cons, h x List.mem_cons_self]
    exact cuts_congr g g' q _ (fun c hc => h c (List.mem_cons_of_mem _ hc))
theorem need_mem (n : S23) (kf : Int) (its : List S56) (tb : List Int) (s : S23) : needV n kf its tb s = 0 ∨ (∃ x ∈ its, fitsB x.f1 s = true ∧ x.f2 = needV n kf its tb s) ∨ ∃ c ∈ cutsL kf s, both n.f0 n.f1 tb c = needV n kf its tb s := by
  unfold needV
  rcases cuts_mem (both n.f0 n.f1 tb) (cutsL kf s) (itemsV s its 0) with e | h
  · rw [e]
    rcases items_mem s its 0 with e | h
    · exact Or.inl e
    · exact Or.inr (Or.inl h)
  · exact Or.inr (Or.inr h)
theorem both_eq {n : S23} (hn : okN n) {kf : Int} (hk : 0 ≤ kf) {s : S23} (hs : inB n s) (tb : List Int) {c : Ct} (hc : c ∈ cutsL kf s) : both n.f0 n.f1 tb c = wrap64 (rd tb (ix n c.l) + rd tb (ix n c.r)) := by
  obtain ⟨⟨hl, _⟩, hr, _⟩ := cut_in hn hs hk hc
  unfold both
  rw [ixS_eq hn hl, ixS_eq hn hr]
theorem need_congr {n : S23} (hn : okN n) {kf : Int} (hk : 0 ≤ kf) (its : List S56) {s : S23} (hs : inB n s) {tb tb' : List Int} (h : ∀ j, 0 ≤ j → j < ix n s → rd tb j = rd tb' j) : needV n kf its tb s = needV n kf its tb' s := by
  unfold needV
  refine cuts_congr _ _ _ _ (fun c hc => ?_)
  obtain ⟨⟨hl, hl'⟩, hr, hr'⟩ := cut_in hn hs hk hc
  rw [both_eq hn hk hs _ hc, both_eq hn hk hs _ hc, h _ (ix_lt hl).1 hl', h _ (ix_lt hr).1 hr']
theorem rd_set (tb : List Int) (i : Nat) (v : Int) (j : Int) (h0 : 0 ≤ j) (hi : i < tb.length) : rd (tb.set i v) j = if j = (i : Int) then v else rd tb j := by
  unfold rd
  rw [List.getD_eq_getElem?_getD, List.getElem?_set]
  by_cases h : j = (i : Int)
  · rw [if_pos (by omega), if_pos hi, if_pos h]; rfl
  · rw [if_neg (by omega), if_neg h, List.getD_eq_getElem?_getD]
theorem tab_fix_go {n : S23} (hn : okN n) {kf : Int} (hk : 0 ≤ kf) (its : List S56) : ∀ (m i : Nat) (tb : List Int), (tb.length : Int) = cnt n → i + m = (cnt n).toNat → (∀ j : Int, 0 ≤ j → j < (i : Int) → rd tb j = needV n kf its tb (sz n j)) → ∀ j : Int, 0 ≤ j → j < cnt n → rd (tabGo n kf its m i tb) j = needV n kf its (tabGo n kf its m i tb) (sz n j)
  | 0, i, tb, ht, hm, h, j, h0, h1 => h j h0 (by have := cnt_le hn; omega)
  | m + 1, i, tb, ht, hm, h, j, h0, h1 => by
    rw [tabGo]
    refine tab_fix_go hn hk its m (i + 1) _ (by rw [List.length_set]; exact ht) (by omega) (fun j h0 h1 => ?_) j h0 h1
    have hj : j < cnt n := by have := cnt_le hn; omega
    rw [rd_set _ _ _ _ h0 (by have := cnt_le hn; omega)]
    have hc : needV n kf its (tb.set i (needV n kf its tb (sz n i))) (sz n j) = needV n kf its tb (sz n j) := need_congr hn hk its (sz_inB hn h0 hj) (fun q q0 q1 => by
      rw [ix_sz] at q1
      rw [rd_set _ _ _ _ q0 (by have := cnt_le hn; omega), if_neg (by omega)])
    rw [hc]
    by_cases e : j = (i : Int)
    · rw [if_pos e, e]
    · rw [if_neg e]
      exact h j h0 (by omega)
theorem tab_fix {n : S23} (hn : okN n) {kf : Int} (hk : 0 ≤ kf) (its : List S56) {j : Int} (h0 : 0 ≤ j) (h1 : j < cnt n) : rd (tabT n kf its) j = needV n kf its (tabT n kf its) (sz n j) :=
  tab_fix_go hn hk its _ 0 _ (by simp; have := cnt_le hn; omega) (by omega) (fun j _ h => absurd h (by omega)) j h0 h1
theorem tab_fixS {n s : S23} (hn : okN n) {kf : Int} (hk : 0 ≤ kf) (its : List S56) (hs : inB n s) : rd (tabT n kf its) (ix n s) = needV n kf its (tabT n kf its) s := by
  have := tab_fix hn hk its (ix_lt hs).1 (ix_lt hs).2
  rw [sz_ix hs] at this
  exact this
def vol (s : S23) : Int := s.f0 * s.f1 * s.f2
theorem vol_pos {n s : S23} (hs : inB n s) : 1 ≤ vol s := by
  unfold inB at hs
  unfold vol
  have c := Int.mul_le_mul hs.1.1 hs.2.1.1 (by decide) (show 0 ≤ s.f0 by omega)
  have d := Int.mul_le_mul c hs.2.2.1 (by decide) (Int.mul_nonneg (show 0 ≤ s.f0 by omega) (show 0 ≤ s.f1 by omega))
  omega
theorem vol_le {n s : S23} (hn : okN n) (hs : inB n s) : vol s ≤ 13824 := by
  have : okN s := by unfold okN inB at *; omega
  exact (cnt_le this).2
theorem vol_add (a b c p q : Int) (hb : 1 ≤ b) (hc : 1 ≤ c) (h : p + q ≤ a) : p * b * c + q * b * c ≤ a * b * c := by
  rw [← Int.add_mul, ← Int.add_mul]
  exact Int.mul_le_mul_of_nonneg_right (Int.mul_le_mul_of_nonneg_right h (by omega)) (by omega)
theorem vol_cut {n s : S23} {kf : Int} (hn : okN n) (hs : inB n s) (hk : 0 ≤ kf) {c : Ct} (hc : c ∈ cutsL kf s) : vol c.l + vol c.r ≤ vol s := by
  obtain ⟨ax, pos, ha, h1, h2, rfl⟩ := mem_cutsL.1 hc
  unfold inB at hs
  show vol (setAx s ax pos) + vol (setAx s ax (getAx s ax - pos - kf)) ≤ vol s
  have h3 : ax = 0 ∨ ax = 1 ∨ ax = 2 := by omega
  rcases h3 with rfl | rfl | rfl
  · exact vol_add s.f0 s.f1 s.f2 pos (s.f0 - pos - kf) (by omega) (by omega) (by omega)
  · have := vol_add s.f1 s.f0 s.f2 pos (s.f1 - pos - kf) (by omega) (by omega) (by omega)
    show s.f0 * pos * s.f2 + s.f0 * (s.f1 - pos - kf) * s.f2 ≤ s.f0 * s.f1 * s.f2
    rw [Int.mul_comm s.f0 pos, Int.mul_comm s.f0 (s.f1 - pos - kf), Int.mul_comm s.f0 s.f1]
    exact this
  · have := vol_add s.f2 s.f0 s.f1 pos (s.f2 - pos - kf) (by omega) (by omega) (by omega)
    show s.f0 * s.f1 * pos + s.f0 * s.f1 * (s.f2 - pos - kf) ≤ s.f0 * s.f1 * s.f2
    rw [Int.mul_comm (s.f0 * s.f1) pos, Int.mul_comm (s.f0 * s.f1) (s.f2 - pos - kf), Int.mul_comm (s.f0 * s.f1) s.f2, ← Int.mul_assoc, ← Int.mul_assoc, ← Int.mul_assoc]
    exact this
theorem rd23_set (ps : List S23) (k : Nat) (p : S23) (x : Int) (hk : k < ps.length) : rd_T23 (ps.set k p) x = if x.toNat = k then p else rd_T23 ps x := by
  unfold rd_T23
  rw [List.getD_eq_getElem?_getD, List.getElem?_set]
  by_cases h : k = x.toNat
  · rw [if_pos h, if_pos (by omega), if_pos h.symm]; rfl
  · rw [if_neg h, if_neg (fun hh => h hh.symm), List.getD_eq_getElem?_getD]
def PB (p b : S23) : Prop := (0 ≤ p.f0 ∧ 0 ≤ b.f0 ∧ p.f0 + b.f0 ≤ 24) ∧ (0 ≤ p.f1 ∧ 0 ≤ b.f1 ∧ p.f1 + b.f1 ≤ 24) ∧ (0 ≤ p.f2 ∧ 0 ≤ b.f2 ∧ p.f2 + b.f2 ≤ 24)
theorem PB.ax {p b : S23} (h : PB p b) {ax : Int} (ha : 0 ≤ ax ∧ ax ≤ 2) : 0 ≤ getAx p ax ∧ 0 ≤ getAx b ax ∧ getAx p ax + getAx b ax ≤ 24 := by
  unfold PB at h
  have h1 : ax = 0 ∨ ax = 1 ∨ ax = 2 := by omega
  rcases h1 with rfl | rfl | rfl
  · exact h.1
  · exact h.2.1
  · exact h.2.2
theorem PB.set {p b : S23} (h : PB p b) {ax v w : Int} (ha : 0 ≤ ax ∧ ax ≤ 2) (hv : 0 ≤ v) (hw : 0 ≤ w) (hvw : v + w ≤ 24) : PB (setAx p ax v) (setAx b ax w) := by
  unfold PB at h ⊢
  have h1 : ax = 0 ∨ ax = 1 ∨ ax = 2 := by omega
  rcases h1 with rfl | rfl | rfl
  · exact ⟨⟨hv, hw, hvw⟩, h.2⟩
  · exact ⟨h.1, ⟨hv, hw, hvw⟩, h.2.2⟩
  · exact ⟨h.1, h.2.1, ⟨hv, hw, hvw⟩⟩
theorem set_get (s : S23) (ax : Int) : setAx s ax (getAx s ax) = s := by
  unfold setAx getAx
  by_cases a : ax = 0
  · rw [if_pos a, if_pos a]
  · rw [if_neg a, if_neg a]
    by_cases b : ax = 1
    · rw [if_pos b, if_pos b]
    · rw [if_neg b, if_neg b]
def PBs (ps bs : List S23) : Prop := ∀ x : Int, PB (rd_T23 ps x) (rd_T23 bs x)
theorem PBs.set {ps bs : List S23} (h : PBs ps bs) (hl : ps.length = bs.length) {k : Nat} (hk : k < ps.length) {p b : S23} (hp : PB p b) : PBs (ps.set k p) (bs.set k b) := fun x => by
  rw [rd23_set ps k p x hk, rd23_set bs k b x (by omega)]
  by_cases e : x.toNat = k
  · rw [if_pos e, if_pos e]; exact hp
  · rw [if_neg e, if_neg e]; exact h x
theorem awk : lw_awake.f 100 = some true := by decide +kernel
theorem awake_ev : Ev (fun k => lw_awake.f k) true := Ev.of (fun k => lw_awake.mono k) awk
theorem tab_lenI {n : S23} (hn : okN n) (kf : Int) (its : List S56) : ((tabT n kf its).length : Int) = cnt n := by
  have := cnt_le hn
  rw [tabT_len]
  omega
instance (n s : S23) : Decidable (inB n s) := by unfold inB; infer_instance
theorem ix_top {n : S23} (hn : okN n) : inB n n ∧ ix n n = cnt n - 1 := by
  unfold okN at hn
  refine ⟨by unfold inB; omega, ?_⟩
  unfold ix cnt
  rw [Int.sub_mul n.f2 1 n.f1, Int.one_mul, show n.f2 * n.f1 - n.f1 + (n.f1 - 1) = n.f2 * n.f1 - 1 by omega, Int.sub_mul, Int.one_mul, Int.mul_comm n.f2 n.f1, Int.mul_comm (n.f1 * n.f2) n.f0, Int.mul_assoc n.f0]
  omega
def le23 (s t : S23) : Prop := s.f0 ≤ t.f0 ∧ s.f1 ≤ t.f1 ∧ s.f2 ≤ t.f2
theorem le23.ax {s t : S23} (h : le23 s t) {ax : Int} (ha : 0 ≤ ax ∧ ax ≤ 2) : getAx s ax ≤ getAx t ax := by
  have h1 : ax = 0 ∨ ax = 1 ∨ ax = 2 := by omega
  rcases h1 with rfl | rfl | rfl
  · exact h.1
  · exact h.2.1
  · exact h.2.2
theorem le23.set {s t : S23} (h : le23 s t) {ax v w : Int} (ha : 0 ≤ ax ∧ ax ≤ 2) (hv : v ≤ w) : le23 (setAx s ax v) (setAx t ax w) := by
  have h1 : ax = 0 ∨ ax = 1 ∨ ax = 2 := by omega
  rcases h1 with rfl | rfl | rfl
  · exact ⟨hv, h.2⟩
  · exact ⟨h.1, hv, h.2.2⟩
  · exact ⟨h.1, h.2.1, hv⟩
def behS (fr : S23) (kf : Int) (c : Ct) : S23 := setAx fr c.ax (getAx fr c.ax + c.pos + kf)
def planB (n : S23) (kf : Int) (its : List S56) (tb : List Int) : Nat → Nat → S23 → S23 → List S61
  | 0, _, _, _ => []
  | m + 1, i, fr, s => if rd tb (ix n s) = 0 then [leafN] else match its.find? (itemOk s (rd tb (ix n s))) with
    | some x => [prodN x]
    | none => match (cutsL kf s).find? (fun c => decide (both n.f0 n.f1 tb c = rd tb (ix n s))) with
      | none => []
      | some c => ⟨3, ⟨#[]⟩, c.ax, getAx fr c.ax + c.pos, kf, (i : Int) + 1, (i : Int) + 1 + ((planB n kf its tb m (i + 1) fr c.l).length : Int)⟩ :: (planB n kf its tb m (i + 1) fr c.l ++ planB n kf its tb m (i + 1 + (planB n kf its tb m (i + 1) fr c.l).length) (behS fr kf c) c.r)
theorem planB_0 {n : S23} {kf : Int} {its : List S56} {tb : List Int} {m i : Nat} {fr s : S23} (h : rd tb (ix n s) = 0) : planB n kf its tb (m + 1) i fr s = [leafN] := by rw [planB, if_pos h]
theorem planB_x {n : S23} {kf : Int} {its : List S56} {tb : List Int} {m i : Nat} {fr s : S23} (h : rd tb (ix n s) ≠ 0) {x : S56} (hx : its.find? (itemOk s (rd tb (ix n s))) = some x) : planB n kf its tb (m + 1) i fr s = [prodN x] := by rw [planB, if_neg h, hx]
theorem planB_c {n : S23} {kf : Int} {its : List S56} {tb : List Int} {m i : Nat} {fr s : S23} (h : rd tb (ix n s) ≠ 0) (hx : its.find? (itemOk s (rd tb (ix n s))) = none) {c : Ct} (hc : (cutsL kf s).find? (fun c => decide (both n.f0 n.f1 tb c = rd tb (ix n s))) = some c) :
    planB n kf its tb (m + 1) i fr s = ⟨3, ⟨#[]⟩, c.ax, getAx fr c.ax + c.pos, kf, (i : Int) + 1, (i : Int) + 1 + ((planB n kf its tb m (i + 1) fr c.l).length : Int)⟩ :: (planB n kf its tb m (i + 1) fr c.l ++ planB n kf its tb m (i + 1 + (planB n kf its tb m (i + 1) fr c.l).length) (behS fr kf c) c.r) := by rw [planB, if_neg h, hx, hc]
theorem tab_from {n : S23} {kf : Int} {its : List S56} (hc : chk n kf its = 0) {s : S23} (hs : inB n s) (h : rd (tabT n kf its) (ix n s) ≠ 0) (hx : its.find? (itemOk s (rd (tabT n kf its) (ix n s))) = none) : ∃ c, (cutsL kf s).find? (fun c => decide (both n.f0 n.f1 (tabT n kf its) c = rd (tabT n kf its) (ix n s))) = some c ∧ c ∈ cutsL kf s ∧ both n.f0 n.f1 (tabT n kf its) c = rd (tabT n kf its) (ix n s) := by
  obtain ⟨hn, hk, _⟩ := chk_ok hc
  have hf := tab_fixS hn hk.1 its hs
  rcases need_mem n kf its (tabT n kf its) s with e | ⟨x, hm, hfit, e⟩ | ⟨c, hm, e⟩
  · rw [← hf] at e
    exact absurd e h
  · rw [← hf] at e
    have := List.find?_eq_none.1 hx x hm
    unfold itemOk at this
    rw [hfit, decide_eq_true e] at this
    exact absurd rfl this
  · rw [← hf] at e
    cases hq : (cutsL kf s).find? (fun c => decide (both n.f0 n.f1 (tabT n kf its) c = rd (tabT n kf its) (ix n s)))
    · have := List.find?_eq_none.1 hq c hm
      rw [decide_eq_true e] at this
      exact absurd rfl this
    · rename_i c'
      refine ⟨c', rfl, List.mem_of_find?_eq_some hq, ?_⟩
      have := List.find?_some hq
      simpa using this
theorem cut_PB {n s fr : S23} {kf : Int} (hk : 0 ≤ kf ∧ kf ≤ 24) (hs : inB n s) (h : PB s fr) {c : Ct} (hc : c ∈ cutsL kf s) : PB c.l fr ∧ PB c.r (behS fr kf c) ∧ (c.l.f0 + c.l.f1 + c.l.f2 < s.f0 + s.f1 + s.f2) ∧ (c.r.f0 + c.r.f1 + c.r.f2 < s.f0 + s.f1 + s.f2) ∧ (0 ≤ c.ax ∧ c.ax ≤ 2) ∧ (1 ≤ c.pos ∧ c.pos + kf < getAx s c.ax) ∧ c = ctA kf s c.ax c.pos := by
  obtain ⟨ax, pos, ha, h1, h2, rfl⟩ := mem_cutsL.1 hc
  have hx := h.ax ha
  refine ⟨?_, ?_, ?_, ?_, ha, ⟨h1, h2⟩, rfl⟩
  · have := h.set ha (v := pos) (w := getAx fr ax) (by omega) (by omega) (by omega)
    rw [set_get] at this
    exact this
  · exact h.set ha (v := getAx s ax - pos - kf) (w := getAx fr ax + pos + kf) (by omega) (by omega) (by omega)
  · show (setAx s ax pos).f0 + (setAx s ax pos).f1 + (setAx s ax pos).f2 < _
    rcases set_of s ax pos ha with ⟨e, g⟩ | ⟨e, g⟩ | ⟨e, g⟩ <;> rw [e] <;> dsimp only <;> omega
  · show (setAx s ax (getAx s ax - pos - kf)).f0 + (setAx s ax (getAx s ax - pos - kf)).f1 + (setAx s ax (getAx s ax - pos - kf)).f2 < _
    rcases set_of s ax (getAx s ax - pos - kf) ha with ⟨e, g⟩ | ⟨e, g⟩ | ⟨e, g⟩ <;> rw [e] <;> dsimp only <;> omega
theorem setR_app (L B : List S61) (nd : S61) (v : Int) : setR (L ++ [nd] ++ B) L.length v = L ++ [⟨nd.f0, nd.f1, nd.f2, nd.f3, nd.f4, nd.f5, v⟩] ++ B := by
  unfold setR
  have h : rd_T61 (L ++ [nd] ++ B) (L.length : Int) = nd := by
    rw [List.append_assoc]
    exact rd61_app L B nd
  rw [h, List.append_assoc, List.set_append_right _ _ (Nat.le_refl _), Nat.sub_self]
  simp
theorem putF_spec {n : S23} {kf : Int} {its : List S56} (hc : chk n kf its = 0) : ∀ (m : Nat) (L : List S61) (fr s : S23), inB n s → PB s fr → s.f0 + s.f1 + s.f2 < (m : Int) → L.length ≤ 1025 →
    ∃ L', putF n.f0 n.f1 kf its (tabT n kf its) m L fr s = some L' ∧ L'.length ≤ 1025 ∧ (L.length ≤ 1024 → L.length < L'.length) ∧ (L.length + (planB n kf its (tabT n kf its) m L.length fr s).length ≤ 1024 → L' = L ++ planB n kf its (tabT n kf its) m L.length fr s) ∧ (¬ L.length + (planB n kf its (tabT n kf its) m L.length fr s).length ≤ 1024 → L'.length = 1025)
  | 0, L, fr, s, hs, hp, hm, hl => by
    unfold inB at hs
    omega
  | m + 1, L, fr, s, hs, hp, hm, hl => by
    obtain ⟨hn, hk, hi, hit, _⟩ := chk_ok hc
    have ht := tab_lenI hn kf its
    have hix := ix_lt hs
    have hok : ixOk n.f0 n.f1 (tabT n kf its) s = true ∧ cutOk n.f0 n.f1 kf (tabT n kf its) s = true ∧ its.length < 1000 ∧ L.length < 100000 := by
      refine ⟨?_, cut_ok hn hs hk ht, by omega, by omega⟩
      unfold ixOk
      rw [ixS_eq hn hs]
      simp only [Bool.and_eq_true, decide_eq_true_eq]
      omega
    rw [putF, if_pos hok, ixS_eq hn hs]
    by_cases hL : L.length > 1024
    · rw [if_pos hL]
      exact ⟨L, rfl, hl, fun h => by omega, fun h => by omega, fun _ => by omega⟩
    rw [if_neg hL]
    have one : ∀ nd : S61, planB n kf its (tabT n kf its) (m + 1) L.length fr s = [nd] → ∃ L', some (L ++ [nd]) = some L' ∧ L'.length ≤ 1025 ∧ (L.length ≤ 1024 → L.length < L'.length) ∧ (L.length + (planB n kf its (tabT n kf its) (m + 1) L.length fr s).length ≤ 1024 → L' = L ++ planB n kf its (tabT n kf its) (m + 1) L.length fr s) ∧ (¬ L.length + (planB n kf its (tabT n kf its) (m + 1) L.length fr s).length ≤ 1024 → L'.length = 1025) := fun nd e => by
      rw [e]
      refine ⟨_, rfl, ?_, fun _ => ?_, fun _ => rfl, fun h => ?_⟩
      · rw [List.length_append, List.length_singleton]; omega
      · rw [List.length_append, List.length_singleton]; omega
      · rw [List.length_singleton] at h
        rw [List.length_append, List.length_singleton]; omega
    by_cases h0 : rd (tabT n kf its) (ix n s) = 0
    · rw [if_pos h0]
      exact one _ (planB_0 h0)
    rw [if_neg h0]
    cases hx : its.find? (itemOk s (rd (tabT n kf its) (ix n s)))
    case some x => exact one _ (planB_x h0 hx)
    obtain ⟨c, hq, hmem, hb⟩ := tab_from hc hs h0 hx
    have hci := cut_in hn hs hk.1 hmem
    obtain ⟨pl, pr, sl, sr, hax, hpos, _⟩ := cut_PB hk hs hp hmem
    have hfr := hp.ax hax
    rw [planB_c h0 hx hq]
    simp only [hq]
    have hcut : cutN fr kf c L.length = ⟨3, ⟨#[]⟩, c.ax, getAx fr c.ax + c.pos, kf, (L.length : Int) + 1, 0⟩ := by
      unfold cutN
      rw [wr (x := getAx fr c.ax + c.pos) (by omega), wr (x := (L.length : Int) + 1) (by omega)]
    have hbeh : behindS fr kf c = behS fr kf c := by
      unfold behindS behS
      rw [wr (x := c.pos + kf) (by omega), wr (x := getAx fr c.ax + (c.pos + kf)) (by omega), Int.add_assoc]
    rw [hcut, hbeh]
    have hlen1 : (L ++ [(⟨3, ⟨#[]⟩, c.ax, getAx fr c.ax + c.pos, kf, (L.length : Int) + 1, 0⟩ : S61)]).length = L.length + 1 := by simp
    obtain ⟨L1, e1, b1, g1, y1, z1⟩ := putF_spec hc m (L ++ [⟨3, ⟨#[]⟩, c.ax, getAx fr c.ax + c.pos, kf, (L.length : Int) + 1, 0⟩]) fr c.l hci.1.1 pl (by omega) (by rw [hlen1]; omega)
    rw [hlen1] at g1 y1 z1
    have hgt : L.length < L1.length := by
      by_cases h : L.length + 1 ≤ 1024
      · have := g1 h; omega
      · have := z1 (by omega); omega
    rw [e1]
    simp only [Option.bind_some]
    rw [if_pos ⟨hgt, by omega⟩]
    have hsl : (setR L1 L.length (L1.length : Int)).length = L1.length := by unfold setR; simp
    obtain ⟨L2, e2, b2, g2, y2, z2⟩ := putF_spec hc m (setR L1 L.length (L1.length : Int)) (behS fr kf c) c.r hci.2.1 pr (by omega) (by omega)
    rw [hsl] at g2 y2 z2
    refine ⟨L2, e2, b2, fun h => ?_, fun h => ?_, fun h => ?_⟩
    · by_cases h2 : L1.length ≤ 1024
      · have := g2 h2; omega
      · have := z2 (by omega); omega
    · simp only [List.length_cons, List.length_append] at h
      have q1 := y1 (by omega)
      have q1l : L1.length = L.length + 1 + (planB n kf its (tabT n kf its) m (L.length + 1) fr c.l).length := by rw [q1]; simp; omega
      have q2 := y2 (by rw [q1l]; omega)
      rw [q2, q1l, q1, setR_app]
      simp only [List.append_assoc, List.singleton_append]
      congr 2
    · simp only [List.length_cons, List.length_append] at h
      by_cases h1 : L.length + 1 + (planB n kf its (tabT n kf its) m (L.length + 1) fr c.l).length ≤ 1024
      · have q1 := y1 h1
        have q1l : L1.length = L.length + 1 + (planB n kf its (tabT n kf its) m (L.length + 1) fr c.l).length := by rw [q1]; simp; omega
        refine z2 (fun hh => h ?_)
        rw [q1l] at hh
        omega
      · have := z1 h1
        exact z2 (by omega)
def z3 : S23 := ⟨0, 0, 0⟩
def planT (n : S23) (kf : Int) (its : List S56) : List S61 := planB n kf its (tabT n kf its) 80 0 z3 n
def bestR (n : S23) (kf : Int) (its : List S56) : Int × List S61 × Int := if chk n kf its = 0 then (if (planT n kf its).length ≤ 1024 then (rd (tabT n kf its) (cnt n - 1), planT n kf its, 0) else (0, [], 7)) else (0, [], chk n kf its)
theorem PB_top {n : S23} (hn : okN n) : PB n z3 := by
  unfold okN at hn
  unfold PB z3
  dsimp only
  omega
theorem best_ev (n : S23) (kf : Int) (its : List S56) : Ev (fun k => boxpack_Best.f k n.f0 n.f1 n.f2 kf its) (bestR n kf its) := by
  unfold boxpack_Best.f bestR
  refine Ev.bind (f := fun k e => if e = 0 then ((boxpack_Problem_table.f k n.f0 n.f1 n.f2 kf its).bind fun tb => (putF n.f0 n.f1 kf its tb 80 [] ⟨0, 0, 0⟩ ⟨n.f0, n.f1, n.f2⟩).bind fun L => if L.length > 1024 then some (0, [], 7) else if 0 ≤ wrap64 ((tb.length : Int) - 1) ∧ wrap64 ((tb.length : Int) - 1) < (tb.length : Int) then some (rd tb (wrap64 ((tb.length : Int) - 1)), L, 0) else none) else some (0, [], e)) (check_ev n kf its) ?_
  by_cases hc : chk n kf its = 0
  · obtain ⟨hn, hk, hi, hit, _⟩ := chk_ok hc
    have ht := tab_lenI hn kf its
    have hcn := cnt_le hn
    have hn' := hn
    unfold okN at hn'
    simp only [if_pos hc]
    refine Ev.bind (f := fun k tb => (putF n.f0 n.f1 kf its tb 80 [] ⟨0, 0, 0⟩ ⟨n.f0, n.f1, n.f2⟩).bind fun L => if L.length > 1024 then some (0, [], 7) else if 0 ≤ wrap64 ((tb.length : Int) - 1) ∧ wrap64 ((tb.length : Int) - 1) < (tb.length : Int) then some (rd tb (wrap64 ((tb.length : Int) - 1)), L, 0) else none) (table_ev hn hk (show its.length < 1000000 by omega)) ?_
    obtain ⟨L, e, b, g, y, z⟩ := putF_spec hc 80 [] z3 n (ix_top hn).1 (PB_top hn) (by omega) (by simp)
    refine Ev.const (fun k => ?_)
    rw [show putF n.f0 n.f1 kf its (tabT n kf its) 80 [] ⟨0, 0, 0⟩ ⟨n.f0, n.f1, n.f2⟩ = some L from e]
    simp only [Option.bind_some]
    have hp : planB n kf its (tabT n kf its) 80 ([] : List S61).length z3 n = planT n kf its := rfl
    rw [hp] at y z
    by_cases hl : (planT n kf its).length ≤ 1024
    · have hL : L = planT n kf its := by
        have := y (by simpa using hl)
        simpa using this
      rw [if_pos hl, hL, if_neg (by omega), ht, wr (x := cnt n - 1) (by omega), if_pos (by omega)]
    · have := z (by simpa using hl)
      rw [if_neg hl, if_pos (by omega)]
  · simp only [if_neg hc]
    exact Ev.now _

theorem planB_len {n : S23} {kf : Int} {its : List S56} (hc : chk n kf its = 0) : ∀ (m i : Nat) (fr s : S23), inB n s → ((planB n kf its (tabT n kf its) m i fr s).length : Int) ≤ 2 * vol s - 1
  | 0, i, fr, s, hs => by
    have := vol_pos hs
    show (0 : Int) ≤ _
    omega
  | m + 1, i, fr, s, hs => by
    obtain ⟨hn, hk, _⟩ := chk_ok hc
    have hv := vol_pos hs
    by_cases h0 : rd (tabT n kf its) (ix n s) = 0
    · rw [planB_0 h0]
      show (1 : Int) ≤ _
      omega
    cases hx : its.find? (itemOk s (rd (tabT n kf its) (ix n s)))
    case some x =>
      rw [planB_x h0 hx]
      show (1 : Int) ≤ _
      omega
    obtain ⟨c, hq, hmem, hb⟩ := tab_from hc hs h0 hx
    have hci := cut_in hn hs hk.1 hmem
    have hvc := vol_cut hn hs hk.1 hmem
    rw [planB_c h0 hx hq, List.length_cons, List.length_append]
    have a := planB_len hc m (i + 1) fr c.l hci.1.1
    have b := planB_len hc m (i + 1 + (planB n kf its (tabT n kf its) m (i + 1) fr c.l).length) (behS fr kf c) c.r hci.2.1
    omega
theorem Ev.step2 {α : Type} {g f : Nat → Option α} {r : α} (h : ∀ k, g (k + 1 + 1) = f k) (k : Ev f r) : Ev g r := Ev.step (f := fun k => g (k + 1)) (fun _ => rfl) (Ev.step h k)
theorem rp2_ev {n s at0 : S23} {kf : Int} (its : List S56) {tb : List Int} (hn : okN n) (hs : inB n s) (hk : 0 ≤ kf ∧ kf ≤ 24) (ht : (tb.length : Int) = cnt n) (i F : Int) {ax : Int} (ha : 0 ≤ ax ∧ ax ≤ 2) (N : Ct → List S61) (R : List S61)
    (hN : ∀ pos, 1 ≤ pos → pos + kf < getAx s ax → both n.f0 n.f1 tb (ctA kf s ax pos) = F → Ev (fun k => rf_Plan.j9 k tb i ax pos n.f0 n.f1 n.f2 kf its at0.f0 at0.f1 at0.f2 (setAx s ax pos).f0 (setAx s ax pos).f1 (setAx s ax pos).f2 (setAx s ax (getAx s ax - pos - kf)).f0 (setAx s ax (getAx s ax - pos - kf)).f1 (setAx s ax (getAx s ax - pos - kf)).f2) (N (ctA kf s ax pos)))
    (hR : Ev (fun k => rf_Plan.l1 k tb i F (ax + 1) n.f0 n.f1 n.f2 kf its at0.f0 at0.f1 at0.f2 s.f0 s.f1 s.f2) R) : ∀ (m : Nat) (pos : Int), (getAx s ax - kf - pos).toNat ≤ m → 1 ≤ pos → pos ≤ 24 →
    Ev (fun k => rf_Plan.l2 k tb i F ax pos n.f0 n.f1 n.f2 kf its at0.f0 at0.f1 at0.f2 s.f0 s.f1 s.f2) (match ((cutsA kf s ax).drop (pos - 1).toNat).find? (fun c => decide (both n.f0 n.f1 tb c = F)) with | some c => N c | none => R)
  | m, pos, hm, h1, h24 => by
    have hg := get_inB hn hs ha
    by_cases hc : pos + kf < getAx s ax
    · match m with
      | 0 => omega
      | m + 1 =>
        have hin : (inB n (setAx s ax pos) ∧ ix n (setAx s ax pos) < ix n s) ∧ (inB n (setAx s ax (getAx s ax - pos - kf)) ∧ ix n (setAx s ax (getAx s ax - pos - kf)) < ix n s) := cut_in hn hs hk.1 (mem_cutsL.2 ⟨ax, pos, ha, h1, hc, rfl⟩)
        have il := ix_lt hin.1.1
        have ir := ix_lt hin.2.1
        have hbo : both n.f0 n.f1 tb (ctA kf s ax pos) = wrap64 (rd tb (ix n (setAx s ax pos)) + rd tb (ix n (setAx s ax (getAx s ax - pos - kf)))) := both_eq hn hk.1 hs tb (mem_cutsL.2 ⟨ax, pos, ha, h1, hc, rfl⟩)
        rw [cutsA_step kf s ax pos h1 hc, List.find?_cons]
        have hst : ∀ k, rf_Plan.l2 (k + 1 + 1) tb i F ax pos n.f0 n.f1 n.f2 kf its at0.f0 at0.f1 at0.f2 s.f0 s.f1 s.f2 = if both n.f0 n.f1 tb (ctA kf s ax pos) = F then rf_Plan.j9 k tb i ax pos n.f0 n.f1 n.f2 kf its at0.f0 at0.f1 at0.f2 (setAx s ax pos).f0 (setAx s ax pos).f1 (setAx s ax pos).f2 (setAx s ax (getAx s ax - pos - kf)).f0 (setAx s ax (getAx s ax - pos - kf)).f1 (setAx s ax (getAx s ax - pos - kf)).f2 else rf_Plan.l2 k tb i F ax (pos + 1) n.f0 n.f1 n.f2 kf its at0.f0 at0.f1 at0.f2 s.f0 s.f1 s.f2 := by
          intro k
          rw [rf_Plan.l2, side_eq s ax ha, wr (x := pos + kf) (by omega)]
          simp only [Option.bind_some]
          rw [if_pos hc, rf_Plan.j8, with_eq s ax pos ha]
          simp only [Option.bind_some]
          rw [side_eq s ax ha]
          simp only [Option.bind_some]
          rw [wr (x := getAx s ax - pos) (by omega), wr (x := getAx s ax - pos - kf) (by omega), with_eq s ax _ ha]
          simp only [Option.bind_some]
          rw [index_eq kf its hn hin.1.1]
          simp only [Option.bind_some]
          rw [if_pos il.1, if_pos (by omega), index_eq kf its hn hin.2.1]
          simp only [Option.bind_some]
          rw [if_pos ir.1, if_pos (by omega), wr (x := pos + 1) (by omega), hbo]
        by_cases hF : both n.f0 n.f1 tb (ctA kf s ax pos) = F
        · have : decide (both n.f0 n.f1 tb (⟨ax, pos, setAx s ax pos, setAx s ax (getAx s ax - pos - kf)⟩ : Ct) = F) = true := decide_eq_true hF
          rw [this]
          refine Ev.step2 (fun k => ?_) (hN pos h1 hc hF)
          rw [hst, if_pos hF]
        · have : decide (both n.f0 n.f1 tb (⟨ax, pos, setAx s ax pos, setAx s ax (getAx s ax - pos - kf)⟩ : Ct) = F) = false := decide_eq_false hF
          rw [this]
          have ih := rp2_ev its hn hs hk ht i F ha N R hN hR m (pos + 1) (by omega) (by omega) (by omega)
          rw [show pos + 1 - 1 = pos by omega] at ih
          refine Ev.step2 (fun k => ?_) ih
          rw [hst, if_neg hF]
    · rw [cutsA_end kf s ax pos h1 hc]
      refine Ev.step (f := fun k => rf_Plan.l1 k tb i F (ax + 1) n.f0 n.f1 n.f2 kf its at0.f0 at0.f1 at0.f2 s.f0 s.f1 s.f2) (fun k => ?_) hR
      rw [rf_Plan.l2, side_eq s ax ha, wr (x := pos + kf) (by omega)]
      simp only [Option.bind_some]
      rw [if_neg hc, wr (x := ax + 1) (by omega)]
theorem rp1_ev {n s at0 : S23} {kf : Int} (its : List S56) {tb : List Int} (hn : okN n) (hs : inB n s) (hk : 0 ≤ kf ∧ kf ≤ 24) (ht : (tb.length : Int) = cnt n) (i F : Int) (N : Ct → List S61)
    (hN : ∀ ax pos, 0 ≤ ax ∧ ax ≤ 2 → 1 ≤ pos → pos + kf < getAx s ax → both n.f0 n.f1 tb (ctA kf s ax pos) = F → Ev (fun k => rf_Plan.j9 k tb i ax pos n.f0 n.f1 n.f2 kf its at0.f0 at0.f1 at0.f2 (setAx s ax pos).f0 (setAx s ax pos).f1 (setAx s ax pos).f2 (setAx s ax (getAx s ax - pos - kf)).f0 (setAx s ax (getAx s ax - pos - kf)).f1 (setAx s ax (getAx s ax - pos - kf)).f2) (N (ctA kf s ax pos))) :
    Ev (fun k => rf_Plan.l1 k tb i F 0 n.f0 n.f1 n.f2 kf its at0.f0 at0.f1 at0.f2 s.f0 s.f1 s.f2) (match (cutsL kf s).find? (fun c => decide (both n.f0 n.f1 tb c = F)) with | some c => N c | none => []) := by
  have h := fun (ax : Int) (ha : 0 ≤ ax ∧ ax ≤ 2) (R : List S61) (hR : Ev (fun k => rf_Plan.l1 k tb i F (ax + 1) n.f0 n.f1 n.f2 kf its at0.f0 at0.f1 at0.f2 s.f0 s.f1 s.f2) R) =>
    Ev.step2 (g := fun k => rf_Plan.l1 k tb i F ax n.f0 n.f1 n.f2 kf its at0.f0 at0.f1 at0.f2 s.f0 s.f1 s.f2) (fun k => by rw [rf_Plan.l1, if_pos (by omega), rf_Plan.j6]) (rp2_ev its hn hs hk ht i F ha N R (fun pos a b c => hN ax pos ha a b c) hR _ 1 (Nat.le_refl _) (by decide) (by decide))
  have h3 : Ev (fun k => rf_Plan.l1 k tb i F (2 + 1) n.f0 n.f1 n.f2 kf its at0.f0 at0.f1 at0.f2 s.f0 s.f1 s.f2) [] := Ev.const1 (fun k => by rw [rf_Plan.l1, if_neg (by decide)])
  refine Ev.eq (h 0 (by decide) _ (h 1 (by decide) _ (h 2 (by decide) _ h3))) ?_
  unfold cutsL
  rw [List.find?_append, List.find?_append]
  show (match (cutsA kf s 0).find? _ with | some c => N c | none => match (cutsA kf s 1).find? _ with | some c => N c | none => match (cutsA kf s 2).find? _ with | some c => N c | none => []) = _
  cases (cutsA kf s 0).find? (fun c => decide (both n.f0 n.f1 tb c = F)) <;> cases (cutsA kf s 1).find? (fun c => decide (both n.f0 n.f1 tb c = F)) <;> cases (cutsA kf s 2).find? (fun c => decide (both n.f0 n.f1 tb c = F)) <;> rfl
theorem rp0_ev {n s at0 : S23} {kf : Int} (its : List S56) (hi : its.length < 1000000) {tb : List Int} (i F : Int) (R : List S61) (hR : Ev (fun k => rf_Plan.l1 k tb i F 0 n.f0 n.f1 n.f2 kf its at0.f0 at0.f1 at0.f2 s.f0 s.f1 s.f2) R) : ∀ (q p : List S56), p ++ q = its →
    Ev (fun k => rf_Plan.l0 k tb i F (p.length : Int) n.f0 n.f1 n.f2 kf its at0.f0 at0.f1 at0.f2 s.f0 s.f1 s.f2) (match q.find? (itemOk s F) with | some x => [prodN x] | none => R)
  | [], p, hp => by
    refine Ev.step (f := fun k => rf_Plan.l1 k tb i F 0 n.f0 n.f1 n.f2 kf its at0.f0 at0.f1 at0.f2 s.f0 s.f1 s.f2) (fun k => ?_) hR
    rw [rf_Plan.l0, if_neg (by rw [← hp]; simp)]
  | x :: q, p, hp => by
    have h2 : (p.length : Int) < (its.length : Int) := by rw [← hp]; exact len_app p q x
    have hx : rd_T56 its (p.length : Int) = x := by rw [← hp]; exact rd56_app p q x
    have ih := rp0_ev its hi i F R hR q (p ++ [x]) (by rw [← hp]; simp)
    rw [len_snoc] at ih
    rw [List.find?_cons]
    have hst : ∀ k, rf_Plan.l0 (k + 1 + 1) tb i F (p.length : Int) n.f0 n.f1 n.f2 kf its at0.f0 at0.f1 at0.f2 s.f0 s.f1 s.f2 = rf_Plan.j4 k tb i F (p.length : Int) (itemOk s F x) n.f0 n.f1 n.f2 kf its at0.f0 at0.f1 at0.f2 s.f0 s.f1 s.f2 := by
      intro k
      rw [rf_Plan.l0, if_pos h2, rf_Plan.j3, if_pos (by omega), if_pos h2, hx, rfitsf x.f1 s]
      simp only [Option.bind_some]
      unfold itemOk
      cases fitsB x.f1 s
      · rfl
      · rfl
    refine Ev.step2 hst ?_
    cases hk : itemOk s F x
    · refine Ev.step (f := fun k => rf_Plan.l0 k tb i F ((p.length : Int) + 1) n.f0 n.f1 n.f2 kf its at0.f0 at0.f1 at0.f2 s.f0 s.f1 s.f2) (fun k => ?_) ih
      rw [rf_Plan.j4, if_neg (by decide), wrn _ (by omega)]
    · refine Ev.const1 (fun k => ?_)
      rw [rf_Plan.j4, if_pos rfl, if_pos (by omega), if_pos h2, hx]
      rfl
theorem rplan_ev {n : S23} {kf : Int} {its : List S56} (hc : chk n kf its = 0) : ∀ (m i : Nat) (fr s : S23), inB n s → PB s fr → s.f0 + s.f1 + s.f2 < (m : Int) → (i : Int) + 2 * vol s ≤ 100000 →
    Ev (fun k => rf_Plan.f k n.f0 n.f1 n.f2 kf its (tabT n kf its) fr.f0 fr.f1 fr.f2 s.f0 s.f1 s.f2 (i : Int)) (planB n kf its (tabT n kf its) m i fr s)
  | 0, i, fr, s, hs, hp, hm, hv => by
    unfold inB at hs
    omega
  | m + 1, i, fr, s, hs, hp, hm, hv => by
    obtain ⟨hn, hk, hi, hit, _⟩ := chk_ok hc
    have ht := tab_lenI hn kf its
    have hix := ix_lt hs
    have hvp := vol_pos hs
    refine Ev.step (f := fun k => rf_Plan.j0 k (tabT n kf its) (i : Int) (rd (tabT n kf its) (ix n s)) n.f0 n.f1 n.f2 kf its fr.f0 fr.f1 fr.f2 s.f0 s.f1 s.f2) (fun k => ?_) ?_
    · rw [rf_Plan.f, index_eq kf its hn hs]
      simp only [Option.bind_some]
      rw [if_pos hix.1, if_pos (by omega)]
    by_cases h0 : rd (tabT n kf its) (ix n s) = 0
    · rw [planB_0 h0]
      refine Ev.const1 (fun k => ?_)
      rw [rf_Plan.j0, if_pos h0]
      rfl
    refine Ev.step2 (f := fun k => rf_Plan.l0 k (tabT n kf its) (i : Int) (rd (tabT n kf its) (ix n s)) 0 n.f0 n.f1 n.f2 kf its fr.f0 fr.f1 fr.f2 s.f0 s.f1 s.f2) (fun k => ?_) ?_
    · rw [rf_Plan.j0, if_neg h0, rf_Plan.j1]
    refine Ev.eq (rp0_ev its (show its.length < 1000000 by omega) (i : Int) (rd (tabT n kf its) (ix n s)) _ (rp1_ev its hn hs hk ht (i : Int) (rd (tabT n kf its) (ix n s)) (fun c => ⟨3, ⟨#[]⟩, c.ax, getAx fr c.ax + c.pos, kf, (i : Int) + 1, (i : Int) + 1 + ((planB n kf its (tabT n kf its) m (i + 1) fr c.l).length : Int)⟩ :: (planB n kf its (tabT n kf its) m (i + 1) fr c.l ++ planB n kf its (tabT n kf its) m (i + 1 + (planB n kf its (tabT n kf its) m (i + 1) fr c.l).length) (behS fr kf c) c.r)) ?_) its [] rfl) ?_
    · intro ax pos ha h1 h2 hF
      have hmem : ctA kf s ax pos ∈ cutsL kf s := mem_cutsL.2 ⟨ax, pos, ha, h1, h2, rfl⟩
      have hci := cut_in hn hs hk.1 hmem
      obtain ⟨pl, pr, sl, sr, _⟩ := cut_PB hk hs hp hmem
      have hvc := vol_cut hn hs hk.1 hmem
      have hvl := vol_pos hci.1.1
      have hvr := vol_pos hci.2.1
      have hfr := hp.ax ha
      have hlen := planB_len hc m (i + 1) fr (ctA kf s ax pos).l hci.1.1
      have ihl := rplan_ev hc m (i + 1) fr (ctA kf s ax pos).l hci.1.1 pl (by omega) (by omega)
      generalize hB1 : planB n kf its (tabT n kf its) m (i + 1) fr (ctA kf s ax pos).l = B1 at hlen ihl ⊢
      have ihr := rplan_ev hc m (i + 1 + B1.length) (behS fr kf (ctA kf s ax pos)) (ctA kf s ax pos).r hci.2.1 pr (by omega) (by omega)
      have hlen2 := planB_len hc m (i + 1 + B1.length) (behS fr kf (ctA kf s ax pos)) (ctA kf s ax pos).r hci.2.1
      refine Ev.step (f := fun k => (rf_Plan.f k n.f0 n.f1 n.f2 kf its (tabT n kf its) fr.f0 fr.f1 fr.f2 (setAx s ax pos).f0 (setAx s ax pos).f1 (setAx s ax pos).f2 (((i + 1 : Nat)) : Int)).bind fun t513 => rf_Plan.j10 k (tabT n kf its) (i : Int) ax pos t513 n.f0 n.f1 n.f2 kf its fr.f0 fr.f1 fr.f2 (setAx s ax (getAx s ax - pos - kf)).f0 (setAx s ax (getAx s ax - pos - kf)).f1 (setAx s ax (getAx s ax - pos - kf)).f2) (fun k => ?_) ?_
      · rw [rf_Plan.j9, wr (x := (i : Int) + 1) (by omega)]
        rfl
      refine Ev.bind (f := fun k t513 => rf_Plan.j10 k (tabT n kf its) (i : Int) ax pos t513 n.f0 n.f1 n.f2 kf its fr.f0 fr.f1 fr.f2 (setAx s ax (getAx s ax - pos - kf)).f0 (setAx s ax (getAx s ax - pos - kf)).f1 (setAx s ax (getAx s ax - pos - kf)).f2) ihl ?_
      refine Ev.step (f := fun k => (rf_Plan.f k n.f0 n.f1 n.f2 kf its (tabT n kf its) (behS fr kf (ctA kf s ax pos)).f0 (behS fr kf (ctA kf s ax pos)).f1 (behS fr kf (ctA kf s ax pos)).f2 (setAx s ax (getAx s ax - pos - kf)).f0 (setAx s ax (getAx s ax - pos - kf)).f1 (setAx s ax (getAx s ax - pos - kf)).f2 (((i + 1 + B1.length : Nat)) : Int)).bind fun t520 => if B1.length + 1 < 2199023255552 then (if 1 + B1.length + t520.length < 2199023255552 then some ([(⟨3, (⟨#[]⟩ : ByteArray), ax, getAx fr ax + pos, kf, (i : Int) + 1, (i : Int) + 1 + (B1.length : Int)⟩ : S61)] ++ B1 ++ t520) else none) else none) (fun k => ?_) ?_
      · rw [rf_Plan.j10, side_eq fr ax ha]
        simp only [Option.bind_some]
        rw [wr (x := getAx fr ax + pos) (by omega), wr (x := getAx fr ax + pos + kf) (by omega), with_eq fr ax _ ha]
        simp only [Option.bind_some]
        rw [wr (x := (i : Int) + 1) (by omega), wr (x := (i : Int) + 1 + (B1.length : Int)) (by omega)]
        show (rf_Plan.f k n.f0 n.f1 n.f2 kf its (tabT n kf its) (setAx fr ax (getAx fr ax + pos + kf)).f0 (setAx fr ax (getAx fr ax + pos + kf)).f1 (setAx fr ax (getAx fr ax + pos + kf)).f2 _ _ _ _).bind _ = (rf_Plan.f k n.f0 n.f1 n.f2 kf its (tabT n kf its) (setAx fr ax (getAx fr ax + pos + kf)).f0 (setAx fr ax (getAx fr ax + pos + kf)).f1 (setAx fr ax (getAx fr ax + pos + kf)).f2 _ _ _ _).bind _
        congr 1
        funext t520
        simp only [List.length_singleton, List.length_append, Option.bind_some]
        rw [show 1 + B1.length = B1.length + 1 by omega]
      · refine Ev.bind (f := fun k t520 => if B1.length + 1 < 2199023255552 then (if 1 + B1.length + t520.length < 2199023255552 then some ([(⟨3, (⟨#[]⟩ : ByteArray), ax, getAx fr ax + pos, kf, (i : Int) + 1, (i : Int) + 1 + (B1.length : Int)⟩ : S61)] ++ B1 ++ t520) else none) else none) ihr ?_
        refine Ev.const (fun k => ?_)
        show (if _ then _ else _) = _
        rw [if_pos (by omega), if_pos (by omega), List.append_assoc]
        rfl
    · rw [planB, if_neg h0]
      cases its.find? (itemOk s (rd (tabT n kf its) (ix n s))) <;> cases (cutsL kf s).find? (fun c => decide (both n.f0 n.f1 (tabT n kf its) c = rd (tabT n kf its) (ix n s))) <;> rfl

theorem sameN0_ev (a : List S61) (hl : a.length < 1000000) : ∀ (s p : List S61), p ++ s = a → Ev (fun k => rf_Same.l0 k a a (p.length : Int)) true
  | [], p, hp => by
    refine Ev.const1 (fun k => ?_)
    rw [rf_Same.l0, if_neg (by rw [← hp]; simp)]
  | v :: s, p, hp => by
    have h2 : (p.length : Int) < (a.length : Int) := by rw [← hp]; exact len_app p s v
    have ih := sameN0_ev a hl s (p ++ [v]) (by rw [← hp]; simp)
    rw [len_snoc] at ih
    refine Ev.step (fun k => ?_) ih
    rw [rf_Same.l0, if_pos h2, if_pos (by omega), if_pos h2, if_neg (by simp), wrn _ (by omega)]
theorem sameN_ev (a : List S61) (hl : a.length < 1000000) : Ev (fun k => rf_Same.f k a a) true := by
  unfold rf_Same.f
  simp only [if_true]
  exact sameN0_ev a hl a [] rfl
theorem Best_law (n : S23) (kf : Int) (its : List S56) : Ev (fun k => lw_BoxpackBest.f k n.f0 n.f1 n.f2 kf its) true := by
  unfold lw_BoxpackBest.f
  refine Ev.bind (f := fun k t315 => lw_BoxpackBest.j0 k (!t315) n.f0 n.f1 n.f2 kf its) awake_ev ?_
  refine Ev.step (f := fun k => lw_BoxpackBest.j1 k n.f0 n.f1 n.f2 kf its) (fun k => rfl) ?_
  refine Ev.step (f := fun k => (rf_Small.f k n.f0 n.f1 n.f2 kf its 9).bind fun t538 => (lw_BoxpackBest.j2 k (!t538) n.f0 n.f1 n.f2 kf its)) (fun k => rfl) ?_
  refine Ev.bind (f := fun k t538 => (lw_BoxpackBest.j2 k (!t538) n.f0 n.f1 n.f2 kf its)) (small_ev n kf its 9) ?_
  cases small n kf its 9
  · exact Ev.const1 (fun k => rfl)
  refine Ev.step (f := fun k => lw_BoxpackBest.j3 k n.f0 n.f1 n.f2 kf its) (fun k => rfl) ?_
  refine Ev.step (f := fun k => (boxpack_Best.f k n.f0 n.f1 n.f2 kf its).bind fun bt539 => (lw_BoxpackBest.j4 k bt539.1 bt539.2.1 bt539.2.2 n.f0 n.f1 n.f2 kf its)) (fun k => rfl) ?_
  refine Ev.bind (f := fun k bt539 => (lw_BoxpackBest.j4 k bt539.1 bt539.2.1 bt539.2.2 n.f0 n.f1 n.f2 kf its)) (best_ev n kf its) ?_
  refine Ev.step (f := fun k => (rf_Check.f k n.f0 n.f1 n.f2 kf its).bind fun t544 => (lw_BoxpackBest.j5 k _ _ _ t544 n.f0 n.f1 n.f2 kf its)) (fun k => rfl) ?_
  refine Ev.bind (f := fun k t544 => (lw_BoxpackBest.j5 k _ _ _ t544 n.f0 n.f1 n.f2 kf its)) (rcheck_ev n kf its) ?_
  by_cases hc : chk n kf its = 0
  · obtain ⟨hn, hk, hi, hit, _⟩ := chk_ok hc
    have hn' := hn
    unfold okN at hn'
    have htop := ix_top hn
    have ht := tab_lenI hn kf its
    have hcn := cnt_le hn
    have hv := vol_le hn htop.1
    have hlen := planB_len hc 80 0 z3 n htop.1
    have hlen' : ((planT n kf its).length : Int) ≤ 2 * vol n - 1 := hlen
    have hb : bestR n kf its = if (planT n kf its).length ≤ 1024 then (rd (tabT n kf its) (cnt n - 1), planT n kf its, 0) else (0, [], 7) := by unfold bestR; rw [if_pos hc]
    refine Ev.step (f := fun k => lw_BoxpackBest.j7 k (bestR n kf its).1 (bestR n kf its).2.1 (bestR n kf its).2.2 n.f0 n.f1 n.f2 kf its) (fun k => by rw [lw_BoxpackBest.j5, if_pos hc]) ?_
    refine Ev.step (f := fun k => (rf_Table.f k n.f0 n.f1 n.f2 kf its).bind fun t545 => (lw_BoxpackBest.j8 k (bestR n kf its).1 (bestR n kf its).2.1 (bestR n kf its).2.2 t545 n.f0 n.f1 n.f2 kf its)) (fun k => rfl) ?_
    refine Ev.bind (f := fun k t545 => (lw_BoxpackBest.j8 k (bestR n kf its).1 (bestR n kf its).2.1 (bestR n kf its).2.2 t545 n.f0 n.f1 n.f2 kf its)) (rtable_ev hn hk (show its.length < 1000000 by omega)) ?_
    refine Ev.step (f := fun k => (rf_Plan.f k n.f0 n.f1 n.f2 kf its (tabT n kf its) 0 0 0 n.f0 n.f1 n.f2 0).bind fun t548 => (lw_BoxpackBest.j9 k (bestR n kf its).1 (bestR n kf its).2.1 (bestR n kf its).2.2 (tabT n kf its) t548)) (fun k => rfl) ?_
    refine Ev.bind (f := fun k t548 => (lw_BoxpackBest.j9 k (bestR n kf its).1 (bestR n kf its).2.1 (bestR n kf its).2.2 (tabT n kf its) t548)) (show Ev (fun k => rf_Plan.f k n.f0 n.f1 n.f2 kf its (tabT n kf its) 0 0 0 n.f0 n.f1 n.f2 0) (planT n kf its) from rplan_ev hc 80 0 z3 n htop.1 (PB_top hn) (by omega) (by omega)) ?_
    by_cases hl : (planT n kf its).length ≤ 1024
    · rw [hb, if_pos hl]
      refine Ev.step2 (f := fun k => (rf_Same.f k (planT n kf its) (planT n kf its)).bind fun t552 => (lw_BoxpackBest.j12 k t552)) (fun k => ?_) ?_
      · rw [lw_BoxpackBest.j9, if_neg (by omega), lw_BoxpackBest.j11, if_pos rfl, ht, wr (x := cnt n - 1) (by omega), if_pos (by omega), if_pos (by omega), if_pos rfl]
      · exact Ev.bind (f := fun k t552 => (lw_BoxpackBest.j12 k t552)) (sameN_ev _ (by omega)) (Ev.const1 (fun k => rfl))
    · rw [hb, if_neg hl]
      refine Ev.step2 (f := fun _ => some true) (fun k => ?_) (Ev.now _)
      rw [lw_BoxpackBest.j9, if_pos (by omega), if_pos rfl, if_pos rfl]
      rfl
  · have hb : bestR n kf its = (0, [], chk n kf its) := by unfold bestR; rw [if_neg hc]
    rw [hb]
    refine Ev.step2 (f := fun _ => some true) (fun k => ?_) (Ev.now _)
    rw [lw_BoxpackBest.j5, if_neg hc, if_pos rfl, if_pos rfl]
    rfl
end Go.Proofs.Ytgacodhpniehiaa.XA
