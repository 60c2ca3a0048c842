import Derived.Test.YtjlljjnkjhdljaaHa
import Derived.Test.YtjlljjnkjhdljaaHb
import Derived.Test.YtjlljjnkjhdljaaHc
import Derived.Test.YtjlljjnkjhdljaaHe
import Derived.Test.YtjlljjnkjhdljaaXAx0
import Derived.Test.YtjlljjnkjhdljaaXAx16
import Derived.Test.YtjlljjnkjhdljaaXAx20
import Derived.Test.YtjlljjnkjhdljaaXAx21
import Derived.Test.YtjlljjnkjhdljaaXAx25
import Derived.Test.YtjlljjnkjhdljaaXAx28
import Derived.Test.YtjlljjnkjhdljaaXAx3
import Derived.Test.YtjlljjnkjhdljaaXAx4
import Derived.Test.YtjlljjnkjhdljaaXAx6
import Derived.Test.YtjlljjnkjhdljaaXAx7
import Derived.Test.YtjlljjnkjhdljaaXAx8
set_option linter.unusedVariables false
set_option linter.unusedSimpArgs false
namespace Go.Proofs.Ytjlljjnkjhdljaa.XA
set_option linter.unusedVariables false
set_option linter.unusedSimpArgs false
open Go.RowKit Go.Proofs.Ytjlljjnkjhdljaa.Opens Go.Proofs.YtjlljjnkjhdljaaW.PrintWords Go.Proofs.YtjlljjnkjhdljaaW.PrintLast Go.Proofs.YtjlljjnkjhdljaaW.PrintMore
theorem wr {x : Int} (h : -9223372036854775808 ≤ x ∧ x ≤ 9223372036854775807) : wrap64 x = x := by unfold wrap64; omega
theorem rdT_app (p s : List S46) (e : S46) : rd_T46 (p ++ e :: s) (p.length : Int) = e := by
  simp [rd_T46, List.getD_eq_getElem?_getD]
theorem rdL_app (p s : List (List S46)) (e : List S46) : rd_L2 (p ++ e :: s) (p.length : Int) = e := by
  simp [rd_L2, List.getD_eq_getElem?_getD]
theorem len_app {α : Type} (p s : List α) (e : α) : ((p.length : Nat) : Int) < ((p ++ e :: s).length : Int) := by simp; omega
theorem app_snoc {α : Type} (p s : List α) (e : α) : p ++ e :: s = (p ++ [e]) ++ s := by simp
theorem len_snoc {α : Type} (p : List α) (e : α) : ((p ++ [e]).length : Int) = (p.length : Int) + 1 := by simp
theorem Ev.eq {α : Type} {g : Nat → Option α} {r s : α} (h : Ev g r) (e : r = s) : Ev g s := e ▸ h
theorem Ev.const {α : Type} {g : Nat → Option α} {r : α} (h : ∀ k, g k = some r) : Ev g r := ⟨0, fun k _ => h k⟩
theorem Ev.const1 {α : Type} {g : Nat → Option α} {r : α} (h : ∀ k, g (k + 1) = some r) : Ev g r := ⟨1, fun k hk => by
  obtain ⟨m, rfl⟩ : ∃ m, k = m + 1 := ⟨k - 1, by omega⟩
  exact h m⟩
theorem Ev.late {α : Type} {g : Nat → Option α} {r : α} (K : Nat) (h : ∀ k, g (k + K) = some r) : Ev g r := ⟨K, fun k hk => by
  obtain ⟨m, rfl⟩ : ∃ m, k = m + K := ⟨k - K, by omega⟩
  exact h m⟩
theorem wrn (n : Nat) (h : n < 1000000) : wrap64 ((n : Int) + 1) = (n : Int) + 1 := wr ⟨by omega, by omega⟩

def fst {α : Type} (P : α → Bool) : Int → List α → Int
  | _, [] => -1
  | i, x :: s => if P x = true then i else fst P (i + 1) s
theorem fst_any {α : Type} (P : α → Bool) : ∀ (s : List α) (i : Int), 0 ≤ i → decide (fst P i s ≥ 0) = s.any P
  | [], _, _ => rfl
  | x :: s, i, h => by
    rw [fst, List.any_cons]
    by_cases c : P x = true
    · rw [if_pos c, c, decide_eq_true h]; rfl
    · rw [if_neg c, fst_any P s (i + 1) (by omega), Bool.eq_false_iff.2 c]; rfl
theorem ix_ev {α : Type} (L : Nat → List α → Int → Int → Option Int) (g : Nat → α → Option Bool) (rdx : List α → Int → α) (hr : ∀ p s e, rdx (p ++ e :: s) ((p.length : Nat) : Int) = e)
    (hL : ∀ k xs n i, L (k + 1) xs n i = if i < n then (if 0 ≤ i then (if i < (xs.length : Int) then ((g k (rdx xs i)).bind fun t => (if t = true then (some i) else (L k xs n (wrap64 (i + 1))))) else none) else none) else (some (-1))) (P : α → Bool) :
    ∀ (s p : List α), (∀ x ∈ s, Ev (fun k => g k x) (P x)) → (p ++ s).length < 1000000 → Ev (fun k => L k (p ++ s) ((p ++ s).length : Int) (p.length : Int)) (fst P p.length s)
  | [], p, _, hl => by
    refine Ev.const1 (fun k => ?_)
    rw [hL, if_neg (by simp)]
    rfl
  | x :: s, p, hP, hl => by
    refine Ev.step (f := fun k => (g k x).bind fun t => (if t = true then (some (p.length : Int)) else (L k (p ++ x :: s) ((p ++ x :: s).length : Int) ((p.length : Int) + 1)))) (fun k => ?_) ?_
    · rw [hL, if_pos (len_app p s x), if_pos (by omega), if_pos (len_app p s x), hr, wrn _ (by simp at hl; omega)]
    · refine Ev.bind (f := fun k t => if t = true then (some (p.length : Int)) else (L k (p ++ x :: s) ((p ++ x :: s).length : Int) ((p.length : Int) + 1))) (hP x (List.mem_cons_self)) ?_
      rw [fst]
      by_cases c : P x = true
      · simp only [if_pos c]
        exact Ev.now _
      · simp only [if_neg c]
        have := ix_ev L g rdx hr hL P s (p ++ [x]) (fun y hy => hP y (List.mem_cons_of_mem _ hy)) (by rw [← app_snoc]; exact hl)
        rw [← app_snoc, len_snoc] at this
        exact this
theorem ix_any {α : Type} (L : Nat → List α → Int → Int → Option Int) (g : Nat → α → Option Bool) (rdx : List α → Int → α) (hr : ∀ p s e, rdx (p ++ e :: s) ((p.length : Nat) : Int) = e)
    (hL : ∀ k xs n i, L (k + 1) xs n i = if i < n then (if 0 ≤ i then (if i < (xs.length : Int) then ((g k (rdx xs i)).bind fun t => (if t = true then (some i) else (L k xs n (wrap64 (i + 1))))) else none) else none) else (some (-1))) (P : α → Bool)
    (s : List α) (hP : ∀ x ∈ s, Ev (fun k => g k x) (P x)) (hl : s.length < 1000000) : Ev (fun k => (L k s (s.length : Int) 0).bind fun t => some (decide (t ≥ 0))) (s.any P) := by
  have h := ix_ev L g rdx hr hL P s [] hP hl
  refine Ev.bind (f := fun _ t => some (decide (t ≥ 0))) h ?_
  rw [← fst_any P s 0 (by omega)]
  exact Ev.now _

structure Q where
  a : S46
  b : S46
  c : S46
  d : S46
def ql (q : Q) : List S46 := [q.a, q.b, q.c, q.d]
def toQ (l : List S46) : Q := ⟨rd_T46 l 0, rd_T46 l 1, rd_T46 l 2, rd_T46 l 3⟩
theorem ql_toQ (l : List S46) (h : l.length = 4) : ql (toQ l) = l := by
  match l, h with
  | [a, b, c, d], _ => rfl
theorem qs_of (l : List (List S46)) (h : l.any (fun v => (v.length : Int) != 4) = false) : (l.map toQ).map ql = l := by
  induction l with
  | nil => rfl
  | cons x l ih =>
    simp only [List.any_cons, Bool.or_eq_false_iff] at h
    rw [List.map_cons, List.map_cons, ih h.2, ql_toQ x (by have := h.1; simp at this; omega)]
theorem ql_any (qs : List Q) : (qs.map ql).any (fun v => (v.length : Int) != 4) = false := by
  induction qs with
  | nil => rfl
  | cons x l ih => rw [List.map_cons, List.any_cons, ih]; rfl
def S46.eqb (p q : S46) : Bool := (p.f0 == q.f0) && (p.f1 == q.f1)
theorem S46.ext' {p q : S46} (h0 : p.f0 = q.f0) (h1 : p.f1 = q.f1) : p = q := by cases p; cases q; simp_all
theorem S46.eqb_iff (p q : S46) : S46.eqb p q = true ↔ p = q := by
  unfold S46.eqb
  simp only [Bool.and_eq_true, beq_iff_eq]
  exact ⟨fun h => S46.ext' h.1 h.2, fun h => by rw [h]; exact ⟨rfl, rfl⟩⟩

def farB (p : S46) : Bool := decide (p.f0 < -1000000) || decide (p.f0 > 1000000) || decide (p.f1 < -1000000) || decide (p.f1 > 1000000)
theorem far_f (p : S46) : arch_far.f p.f0 p.f1 = some (farB p) := by
  unfold arch_far.f farB
  by_cases h1 : p.f0 < -1000000
  · rw [if_pos h1, decide_eq_true h1]; rfl
  · rw [if_neg h1, decide_eq_false h1]
    by_cases h2 : p.f0 > 1000000
    · rw [if_pos h2, decide_eq_true h2]; rfl
    · rw [if_neg h2, decide_eq_false h2]
      by_cases h3 : p.f1 < -1000000
      · rw [if_pos h3, decide_eq_true h3]; rfl
      · rw [if_neg h3, decide_eq_false h3]; rfl
theorem anyfar_ev (l : List S46) (hl : l.length < 1000000) : Ev (fun k => api_Point_55_by_arch_far.f k l) (l.any farB) := by
  refine Ev.congr (fun k => ?_) (ix_any api_Point_68_by_arch_far.l0 (fun _ p => arch_far.f p.f0 p.f1) rd_T46 rdT_app (fun _ _ _ _ => rfl) farB l (fun x _ => Ev.const fun _ => far_f x) hl)
  rfl
def cv (q : Q) : Bool := !(decide (crs q.a q.b q.c ≤ 0) || decide (crs q.b q.c q.d ≤ 0) || decide (crs q.c q.d q.a ≤ 0) || decide (crs q.d q.a q.b ≤ 0))
theorem cv_steps (q : Q) (k : Nat) : arch_convex.l0 (k + 1) (ql q) 4 0 = (if crs q.a q.b q.c ≤ 0 then some false else arch_convex.l0 k (ql q) 4 1) ∧ arch_convex.l0 (k + 1) (ql q) 4 1 = (if crs q.b q.c q.d ≤ 0 then some false else arch_convex.l0 k (ql q) 4 2) ∧
    arch_convex.l0 (k + 1) (ql q) 4 2 = (if crs q.c q.d q.a ≤ 0 then some false else arch_convex.l0 k (ql q) 4 3) ∧ arch_convex.l0 (k + 1) (ql q) 4 3 = (if crs q.d q.a q.b ≤ 0 then some false else arch_convex.l0 k (ql q) 4 4) ∧ arch_convex.l0 (k + 1) (ql q) 4 4 = some true :=
  ⟨by kernel_rfl, by kernel_rfl, by kernel_rfl, by kernel_rfl, by kernel_rfl⟩
theorem convex_f (q : Q) (k : Nat) : arch_convex.f (k + 5) (ql q) = some (cv q) := by
  show arch_convex.l0 (k + 5) (ql q) 4 0 = some (cv q)
  unfold cv
  rw [(cv_steps q (k + 4)).1]
  by_cases h1 : crs q.a q.b q.c ≤ 0
  · rw [if_pos h1, decide_eq_true h1]; rfl
  rw [if_neg h1, decide_eq_false h1, (cv_steps q (k + 3)).2.1]
  by_cases h2 : crs q.b q.c q.d ≤ 0
  · rw [if_pos h2, decide_eq_true h2]; rfl
  rw [if_neg h2, decide_eq_false h2, (cv_steps q (k + 2)).2.2.1]
  by_cases h3 : crs q.c q.d q.a ≤ 0
  · rw [if_pos h3, decide_eq_true h3]; rfl
  rw [if_neg h3, decide_eq_false h3, (cv_steps q (k + 1)).2.2.2.1]
  by_cases h4 : crs q.d q.a q.b ≤ 0
  · rw [if_pos h4, decide_eq_true h4]; rfl
  rw [if_neg h4, decide_eq_false h4, (cv_steps q k).2.2.2.2]; rfl
def lf (p q : S46) (y : Q) : Bool := decide (crs p q y.a > 0) || decide (crs p q y.b > 0) || decide (crs p q y.c > 0) || decide (crs p q y.d > 0)
def sp (x y : Q) : Bool := !lf x.a x.b y || !lf x.b x.c y || !lf x.c x.d y || !lf x.d x.a y
theorem lf_lefts (p q : S46) (y : Q) : lefts (p, q) (ql y) = lf p q y := by
  simp [lefts, ql, lf, Bool.or_assoc]
theorem edges_ql (x : Q) : edge_upto (ql x) 4 = [(x.a, x.b), (x.b, x.c), (x.c, x.d), (x.d, x.a)] := by kernel_rfl
theorem apart_f (k : Nat) (x y : Q) : arch_apart.f k (ql x) (ql y) = some (sp x y) := by
  unfold arch_apart.f
  rw [if_pos (by simp [ql]), show (ql x).length = 4 from rfl, edges_ql]
  simp only [apt, List.any_cons, List.any_nil, lf_lefts, Bool.or_false, sp, Bool.or_assoc]
def jt : Q → List Q → Bool
  | _, [] => true
  | p, q :: s => (S46.eqb p.b q.a && S46.eqb p.c q.d) && jt q s
def lastQ : Q → List Q → Q
  | x, [] => x
  | _, y :: s => lastQ y s
def ends (x : Q) (s : List Q) : Bool := decide (x.a.f1 = (lastQ x s).b.f1) && !decide (x.a.f0 ≥ (lastQ x s).b.f0)
def clr (x : Q) (ys : List Q) : Bool := ys.all fun y => sp x y || sp y x
def ovs : List Q → List Q → Bool
  | _, [] => true
  | p, x :: s => clr x p && ovs (p ++ [x]) s
def ckj : List Q → Int
  | [] => 0
  | x :: s => if jt x s = true then (if ends x s = true then (if ovs [] (x :: s) = true then 0 else 11) else 8) else 10
def ckq (qs : List Q) : Int := if qs.any (fun q => (ql q).any farB) = true then 6 else if qs.any (fun q => !cv q) = true then 1 else ckj qs
def ck (l : List (List S46)) : Int := if (l.length : Int) > 64 then 7 else if (l.length : Int) = 0 then 1 else if l.any (fun v => (v.length : Int) != 4) = true then 1 else ckq (l.map toQ)
theorem rdQ_app (p s : List Q) (x : Q) : rd_L2 ((p ++ x :: s).map ql) (p.length : Int) = ql x := by
  rw [List.map_append, List.map_cons, show (p.length : Int) = ((p.map ql).length : Int) by simp]
  exact rdL_app _ _ _
theorem lenQ (l : List Q) : ((l.map ql).length : Int) = (l.length : Int) := by simp
theorem neqb (p q : S46) : (!(p.f0 == q.f0) || (!(p.f1 == q.f1))) = !S46.eqb p q := by unfold S46.eqb; simp [Bool.not_and]
theorem ql4 (x : Q) : ((ql x).length : Int) = 4 := rfl
theorem cl0_step (p s : List Q) (x y : Q) (k : Nat) (n : Int) (hn : n = ((p ++ x :: y :: s).length : Int)) (hl : (p ++ x :: y :: s).length < 1000) :
    arch_Check.l0 (k + 1) ((p ++ x :: y :: s).map ql) n ((p.length : Int) + 1) = if (!S46.eqb x.b y.a) = true then some 10 else if (!S46.eqb x.c y.d) = true then some 10 else arch_Check.l0 k ((p ++ x :: y :: s).map ql) n ((p.length : Int) + 1 + 1) := by
  have hl2 : (p ++ x :: y :: s).length = p.length + 2 + s.length := by simp; omega
  have e1 : wrap64 ((p.length : Int) + 1 - 1) = (p.length : Int) := by rw [wr ⟨by omega, by omega⟩]; omega
  have e2 : rd_L2 ((p ++ x :: y :: s).map ql) ((p.length : Int) + 1) = ql y := by
    have := rdQ_app (p ++ [x]) s y
    rw [len_snoc, ← app_snoc] at this
    exact this
  simp only [arch_Check.l0]
  rw [e1, rdQ_app, e2, lenQ, hl2] 
  rw [if_pos (by omega), if_pos (by omega), if_pos (by omega), if_pos (by rw [ql4]; decide), if_pos (by omega), if_pos (by omega), if_pos (by rw [ql4]; decide)]
  rw [if_pos (show (2 : Int) < ((ql x).length : Int) by rw [ql4]; decide), if_pos (show (3 : Int) < ((ql y).length : Int) by rw [ql4]; decide)]
  rw [neqb, neqb, wr (x := (p.length : Int) + 1 + 1) ⟨by omega, by omega⟩]
  rfl
theorem cl0_ev (R : Int) : ∀ (s : List Q) (x : Q) (p : List Q), (p ++ x :: s).length < 1000 → Ev (fun k => arch_Check.l0 k ((p ++ x :: s).map ql) ((p ++ x :: s).length : Int) ((p ++ x :: s).length : Int)) R →
    Ev (fun k => arch_Check.l0 k ((p ++ x :: s).map ql) ((p ++ x :: s).length : Int) ((p.length : Int) + 1)) (if jt x s = true then R else 10)
  | [], x, p, hl, h => by
    rw [show ((p.length : Int) + 1) = ((p ++ [x]).length : Int) by simp]
    exact h
  | y :: s, x, p, hl, h => by
    have ih := cl0_ev R s y (p ++ [x]) (by rw [← app_snoc]; exact hl) (by rw [← app_snoc]; exact h)
    rw [← app_snoc, len_snoc] at ih
    refine Ev.step (fun k => cl0_step p s x y k _ rfl hl) ?_
    rw [jt]
    cases c1 : S46.eqb x.b y.a with
    | true =>
      cases c2 : S46.eqb x.c y.d with
      | true =>
        simp only [Bool.not_true, Bool.false_eq_true, if_false, Bool.and_self, Bool.true_and]
        exact ih
      | false =>
        simp only [Bool.not_true, Bool.not_false, Bool.false_eq_true, if_false, if_true, Bool.and_false, Bool.false_and]
        exact Ev.now _
    | false =>
      simp only [Bool.not_false, Bool.false_eq_true, if_false, if_true, Bool.false_and]
      exact Ev.now _
theorem cl2_ev (x : Q) (L : List (List S46)) (n i R : Int) (h : Ev (fun k => arch_Check.l1 k L L n (wrap64 (i + 1))) R) : ∀ (s p : List Q), (p ++ s).length < 1000 →
    Ev (fun k => arch_Check.l2 k L (ql x) L n i ((p ++ s).map ql) (((p ++ s).map ql).length : Int) (p.length : Int)) (if clr x s = true then R else 11)
  | [], p, hl => by
    refine Ev.step (fun k => by simp only [arch_Check.l2]; rw [if_neg (by simp)]) ?_
    exact h
  | y :: s, p, hl => by
    have hl2 : (p ++ y :: s).length = p.length + 1 + s.length := by simp; omega
    have ih := cl2_ev x L n i R h s (p ++ [y]) (by rw [← app_snoc]; exact hl)
    rw [← app_snoc, len_snoc] at ih
    refine Ev.step (f := fun k => if sp x y = true then arch_Check.l2 k L (ql x) L n i ((p ++ y :: s).map ql) (((p ++ y :: s).map ql).length : Int) ((p.length : Int) + 1) else if sp y x = true then arch_Check.l2 k L (ql x) L n i ((p ++ y :: s).map ql) (((p ++ y :: s).map ql).length : Int) ((p.length : Int) + 1) else some 11) (fun k => ?_) ?_
    · simp only [arch_Check.l2]
      rw [rdQ_app, lenQ, hl2, if_pos (by omega), if_pos (by omega), if_pos (by omega), apart_f, apart_f, wr (x := (p.length : Int) + 1) ⟨by omega, by omega⟩]
      rfl
    · unfold clr at ih ⊢
      rw [List.all_cons]
      by_cases c1 : sp x y = true
      · rw [c1]; simp only [if_true, Bool.true_or, Bool.true_and]; exact ih
      · rw [Bool.eq_false_iff.2 c1]
        simp only [Bool.false_or, Bool.false_eq_true, if_false]
        by_cases c2 : sp y x = true
        · rw [c2]; simp only [if_true, Bool.true_and]; exact ih
        · rw [Bool.eq_false_iff.2 c2]; simp only [Bool.false_and, Bool.false_eq_true, if_false]; exact Ev.now _
theorem cl1_ev : ∀ (s p : List Q), (p ++ s).length < 1000 → Ev (fun k => arch_Check.l1 k ((p ++ s).map ql) ((p ++ s).map ql) ((p ++ s).length : Int) (p.length : Int)) (if ovs p s = true then 0 else 11)
  | [], p, hl => by
    refine Ev.const1 (fun k => ?_)
    simp only [arch_Check.l1]
    rw [if_neg (by simp)]
    rfl
  | x :: s, p, hl => by
    have hl2 : (p ++ x :: s).length = p.length + 1 + s.length := by simp; omega
    have ih := cl1_ev s (p ++ [x]) (by rw [← app_snoc]; exact hl)
    rw [← app_snoc, len_snoc] at ih
    refine Ev.step (f := fun k => arch_Check.l2 k ((p ++ x :: s).map ql) (ql x) ((p ++ x :: s).map ql) ((p ++ x :: s).length : Int) (p.length : Int) (p.map ql) ((p.map ql).length : Int) 0) (fun k => ?_) ?_
    · simp only [arch_Check.l1]
      rw [rdQ_app, lenQ, hl2, if_pos (by omega), if_pos (by omega), if_pos (by omega), if_pos (by omega), Option.bind_some]
      rw [show ((p ++ x :: s).map ql).take (p.length : Int).toNat = p.map ql by rw [Int.toNat_natCast, List.map_append, List.take_left' (by simp)]]
    · have := cl2_ev x ((p ++ x :: s).map ql) ((p ++ x :: s).length : Int) (p.length : Int) _ (by rw [wr (x := (p.length : Int) + 1) ⟨by omega, by omega⟩]; exact ih) p [] (by simp only [List.nil_append]; omega)
      refine Ev.eq this ?_
      rw [ovs]
      cases clr x p <;> simp
theorem last_app : ∀ (s : List Q) (x : Q), ∃ p, x :: s = p ++ [lastQ x s] ∧ p.length = s.length
  | [], x => ⟨[], rfl, rfl⟩
  | y :: s, x => by
    obtain ⟨p, h1, h2⟩ := last_app s y
    exact ⟨x :: p, congrArg (x :: ·) h1, by simp [h2]⟩
theorem rdQ_last (s : List Q) (x : Q) : rd_L2 ((x :: s).map ql) (s.length : Int) = ql (lastQ x s) := by
  obtain ⟨p, h1, h2⟩ := last_app s x
  rw [h1, ← h2]
  exact rdQ_app p [] _
theorem springings_f (x : Q) (s : List Q) (hl : (x :: s).length < 1000) : arch_springings.f ((x :: s).map ql) = some (x.a.f0, x.a.f1, (lastQ x s).b.f0, (lastQ x s).b.f1) := by
  have hl2 : (x :: s).length = s.length + 1 := by simp
  unfold arch_springings.f
  have e : wrap64 ((((x :: s).map ql).length : Int) - 1) = (s.length : Int) := by rw [lenQ, hl2, wr ⟨by omega, by omega⟩]; omega
  rw [e, lenQ, hl2, rdQ_last, show rd_L2 ((x :: s).map ql) 0 = ql x from rdQ_app [] s x]
  rw [if_pos (by omega), if_pos (by rw [ql4]; decide), if_pos (by omega), if_pos (by omega), if_pos (by rw [ql4]; decide)]
  rfl
theorem ckj_ev (x : Q) (s : List Q) (hl : (x :: s).length < 1000) : Ev (fun k => arch_Check.l0 k ((x :: s).map ql) ((x :: s).length : Int) 1) (ckj (x :: s)) := by
  have h := cl0_ev (if ends x s = true then (if ovs [] (x :: s) = true then 0 else 11) else 8) s x [] hl ?_
  · exact h
  · refine Ev.step (f := fun k => if x.a.f1 = (lastQ x s).b.f1 then arch_Check.j2 k ((x :: s).map ql) (decide (x.a.f0 ≥ (lastQ x s).b.f0)) else arch_Check.j2 k ((x :: s).map ql) true) (fun k => ?_) ?_
    · simp only [arch_Check.l0]
      rw [if_neg (by omega), List.nil_append, springings_f x s hl, Option.bind_some]
    · have key : ∀ b : Bool, Ev (fun k => arch_Check.j2 k ((x :: s).map ql) b) (if b = true then 8 else if ovs [] (x :: s) = true then 0 else 11) := fun b => by
        refine Ev.step (f := fun k => if b = true then some 8 else arch_Check.l1 k ((x :: s).map ql) ((x :: s).map ql) ((x :: s).length : Int) 0) (fun k => by simp only [arch_Check.j2]; rw [lenQ]) ?_
        cases b with
        | true => exact Ev.now _
        | false => exact cl1_ev (x :: s) [] hl
      unfold ends
      by_cases c : x.a.f1 = (lastQ x s).b.f1
      · simp only [if_pos c, decide_eq_true c, Bool.true_and]
        refine Ev.eq (key _) ?_
        by_cases c2 : x.a.f0 ≥ (lastQ x s).b.f0 <;> simp [c2]
      · simp only [if_neg c, decide_eq_false c, Bool.false_and]
        exact key true
theorem Check_ev (l : List (List S46)) (hl : l.length < 1000) : Ev (fun k => arch_Check.f k l) (ck l) := by
  unfold ck
  by_cases h7 : (l.length : Int) > 64
  · rw [if_pos h7]
    exact Ev.const (fun k => by unfold arch_Check.f; rw [if_pos h7])
  rw [if_neg h7]
  by_cases h0 : (l.length : Int) = 0
  · rw [if_pos h0]
    refine Ev.late 1 (fun k => ?_)
    unfold arch_Check.f
    rw [if_neg h7, if_pos h0]
    rfl
  rw [if_neg h0]
  refine Ev.congr (f := fun k => (api_Polygon_53_by_arch_Check_1.f k l).bind fun t => arch_Check.j0 k l (l.length : Int) t) (fun k => by unfold arch_Check.f; rw [if_neg h7, if_neg h0]) ?_
  refine Ev.bind (f := fun k t => arch_Check.j0 k l (l.length : Int) t) (ix_any api_Polygon_50_by_arch_Check_1.l0 (fun _ v => arch_Check_1.f v) rd_L2 rdL_app (fun _ _ _ _ => rfl) (fun v => (v.length : Int) != 4) l (fun v _ => Ev.const fun _ => rfl) (by omega)) ?_
  by_cases h4 : l.any (fun v => (v.length : Int) != 4) = true
  · rw [if_pos h4, h4]
    exact Ev.late 1 (fun k => rfl)
  rw [if_neg h4]
  replace h4 := Bool.eq_false_iff.2 h4
  rw [h4]
  have hq := qs_of l h4
  generalize l.map toQ = qs at hq
  subst hq
  simp only [List.length_map] at hl h0 h7
  unfold ckq
  refine Ev.step (f := fun k => (api_Polygon_53_by_arch_Check_2.f k (qs.map ql)).bind fun t => if t = true then some 6 else (api_Polygon_53_by_arch_Check_3.f k (qs.map ql)).bind fun t => if t = true then some 1 else arch_Check.l0 k (qs.map ql) ((qs.map ql).length : Int) 1) (fun k => rfl) ?_
  refine Ev.bind (f := fun k t => if t = true then some 6 else (api_Polygon_53_by_arch_Check_3.f k (qs.map ql)).bind fun t => if t = true then some 1 else arch_Check.l0 k (qs.map ql) ((qs.map ql).length : Int) 1) (ix_any api_Polygon_50_by_arch_Check_2.l0 (fun k v => arch_Check_2.f k v) rd_L2 rdL_app (fun _ _ _ _ => rfl) (fun v => v.any farB) (qs.map ql) (fun v hv => ?_) (by rw [List.length_map]; omega)) ?_
  · obtain ⟨q, _, rfl⟩ := List.mem_map.1 hv
    exact Ev.bind (f := fun _ t => some t) (anyfar_ev (ql q) (show 4 < 1000000 by decide)) (Ev.now _)
  rw [List.any_map]
  by_cases hf : qs.any (fun q => (ql q).any farB) = true
  · rw [if_pos hf, show (qs.any ((fun v => v.any farB) ∘ ql)) = true from hf]
    exact Ev.now _
  rw [if_neg hf, show (qs.any ((fun v => v.any farB) ∘ ql)) = false from Bool.eq_false_iff.2 hf]
  simp only [Bool.false_eq_true, if_false]
  refine Ev.bind (f := fun k t => if t = true then some 1 else arch_Check.l0 k (qs.map ql) ((qs.map ql).length : Int) 1) (ix_any api_Polygon_50_by_arch_Check_3.l0 (fun k v => arch_Check_3.f k v) rd_L2 rdL_app (fun _ _ _ _ => rfl) (fun v => !cv (toQ v)) (qs.map ql) (fun v hv => ?_) (by rw [List.length_map]; omega)) ?_
  · obtain ⟨q, _, rfl⟩ := List.mem_map.1 hv
    exact Ev.late 5 (fun k => by unfold arch_Check_3.f; rw [convex_f]; rfl)
  rw [List.any_map]
  by_cases hc : qs.any (fun q => !cv q) = true
  · rw [if_pos hc, show (qs.any ((fun v => !cv (toQ v)) ∘ ql)) = true from hc]
    exact Ev.now _
  rw [if_neg hc, show (qs.any ((fun v => !cv (toQ v)) ∘ ql)) = false from Bool.eq_false_iff.2 hc]
  simp only [Bool.false_eq_true, if_false]
  cases qs with
  | nil => exact absurd rfl h0
  | cons x s =>
    rw [lenQ]
    exact ckj_ev x s hl

structure Ok (x : Q) (s : List Q) : Prop where
  n64 : (x :: s).length ≤ 64
  near : ∀ q ∈ x :: s, ∀ p ∈ ql q, farB p = false
  conv : ∀ q ∈ x :: s, cv q = true
  join : jt x s = true
  ends : ends x s = true
  over : ovs [] (x :: s) = true
theorem ok_ck {x : Q} {s : List Q} (h : Ok x s) : ck ((x :: s).map ql) = 0 := by
  unfold ck
  rw [if_neg (by rw [lenQ]; have := h.n64; omega), if_neg (by rw [lenQ]; simp; omega), ql_any, if_neg (by decide)]
  rw [show ((x :: s).map ql).map toQ = x :: s by rw [List.map_map]; exact List.map_id' _]
  unfold ckq
  rw [if_neg, if_neg]
  · rw [ckj, h.join, h.ends, h.over]
    rfl
  · rw [Bool.not_eq_true, List.any_eq_false]
    intro q hq
    rw [h.conv q hq]; decide
  · rw [Bool.not_eq_true, List.any_eq_false]
    intro q hq
    rw [Bool.not_eq_true, List.any_eq_false]
    intro p hp
    rw [h.near q hq p hp]; decide
theorem ok_of {l : List (List S46)} (h : ck l = 0) : ∃ x s, l = (x :: s).map ql ∧ Ok x s := by
  unfold ck at h
  split at h
  · cases h
  rename_i h7
  split at h
  · cases h
  rename_i h0
  split at h
  · cases h
  rename_i h4
  have hq := qs_of l (Bool.eq_false_iff.2 h4)
  generalize l.map toQ = qs at hq h
  subst hq
  unfold ckq at h
  split at h
  · cases h
  rename_i hf
  split at h
  · cases h
  rename_i hc
  cases qs with
  | nil => exact absurd rfl h0
  | cons x s =>
    refine ⟨x, s, rfl, ?_⟩
    rw [ckj] at h
    split at h
    · rename_i h1
      split at h
      · rename_i h2
        split at h
        · rename_i h3
          rw [Bool.not_eq_true, List.any_eq_false] at hf hc
          refine ⟨by rw [lenQ] at h7; omega, fun q hq p hp => ?_, fun q hq => ?_, h1, h2, h3⟩
          · have := hf q hq
            rw [Bool.not_eq_true, List.any_eq_false] at this
            exact Bool.eq_false_iff.2 (this p hp)
          · have := hc q hq
            cases hv : cv q with
            | true => rfl
            | false => rw [hv] at this; exact absurd rfl this
        · cases h
      · cases h
    · cases h
theorem near_of {p : S46} (h : farB p = false) : (-1000000 ≤ p.f0 ∧ p.f0 ≤ 1000000) ∧ (-1000000 ≤ p.f1 ∧ p.f1 ≤ 1000000) := by
  unfold farB at h
  simp only [Bool.or_eq_false_iff, decide_eq_false_iff_not] at h
  omega
structure NQ (q : Q) : Prop where
  a : (-1000000 ≤ q.a.f0 ∧ q.a.f0 ≤ 1000000) ∧ (-1000000 ≤ q.a.f1 ∧ q.a.f1 ≤ 1000000)
  b : (-1000000 ≤ q.b.f0 ∧ q.b.f0 ≤ 1000000) ∧ (-1000000 ≤ q.b.f1 ∧ q.b.f1 ≤ 1000000)
  c : (-1000000 ≤ q.c.f0 ∧ q.c.f0 ≤ 1000000) ∧ (-1000000 ≤ q.c.f1 ∧ q.c.f1 ≤ 1000000)
  d : (-1000000 ≤ q.d.f0 ∧ q.d.f0 ≤ 1000000) ∧ (-1000000 ≤ q.d.f1 ∧ q.d.f1 ≤ 1000000)
theorem Ok.nq {x : Q} {s : List Q} (h : Ok x s) (q : Q) (hq : q ∈ x :: s) : NQ q :=
  ⟨near_of (h.near q hq _ (by simp [ql])), near_of (h.near q hq _ (by simp [ql])), near_of (h.near q hq _ (by simp [ql])), near_of (h.near q hq _ (by simp [ql]))⟩
def lnB (x : Q) (s : List Q) : List S46 := x.a :: (x :: s).map (·.b)
theorem line0 (j : Int) (pr : Q → S46) (hj : ∀ q, rd_T46 (ql q) j = pr q) (j0 : 0 ≤ j) (j1 : j < 4) : ∀ (s p : List Q) (acc : List S46) (n : Int), n = ((p ++ s).length : Int) → (p ++ s).length < 1000 → acc.length + s.length < 2000 →
    Ev (fun k => arch_line.l0 k j acc ((p ++ s).map ql) n (p.length : Int)) (acc ++ s.map pr)
  | [], p, acc, n, hn, _, _ => Ev.const1 (fun k => by simp only [arch_line.l0]; rw [if_neg (by rw [hn]; simp)]; simp)
  | x :: s, p, acc, n, hn, hl, ha => by
    have hl2 : (p ++ x :: s).length = p.length + 1 + s.length := by simp; omega
    have ih := line0 j pr hj j0 j1 s (p ++ [x]) (acc ++ [pr x]) n (by rw [← app_snoc]; exact hn) (by rw [← app_snoc]; exact hl) (by simp at ha ⊢; omega)
    rw [← app_snoc, len_snoc] at ih
    refine Ev.step (f := fun k => arch_line.l0 k j (acc ++ [pr x]) ((p ++ x :: s).map ql) n ((p.length : Int) + 1)) (fun k => ?_) ?_
    · simp only [arch_line.l0]
      rw [rdQ_app, hj, lenQ, if_pos (by rw [hn, hl2]; omega), if_pos (by omega), hl2, if_pos (by omega), if_pos j0, if_pos (by rw [ql4]; exact j1), if_pos (by simp at ha; omega), wr (x := (p.length : Int) + 1) ⟨by omega, by omega⟩]
    · refine Ev.eq ih ?_
      simp
theorem lineB_ev (x : Q) (s : List Q) (hl : (x :: s).length < 1000) : Ev (fun k => arch_line.f k ((x :: s).map ql) 0 1) (lnB x s) := by
  refine Ev.congr (f := fun k => arch_line.l0 k 1 [x.a] ((x :: s).map ql) ((x :: s).length : Int) 0) (fun k => ?_) (line0 1 (·.b) (fun _ => rfl) (by omega) (by omega) (x :: s) [] [x.a] _ rfl hl (by simp at hl ⊢; omega))
  unfold arch_line.f
  have e0 : rd_L2 ((x :: s).map ql) 0 = ql x := rdQ_app [] s x
  rw [e0, lenQ, if_pos (by first | (simp; done) | (simp; omega)), if_pos (by decide), if_pos (by rw [ql4]; decide)]
  rfl
theorem lnB_len (x : Q) (s : List Q) : (lnB x s).length = s.length + 2 := by simp [lnB]
theorem awake300 : gangsawlaw40_awake.f 300 = some true := by decide +kernel
theorem awake_ev : Ev (fun k => gangsawlaw40_awake.f k) true := Ev.of (fun k => gangsawlaw40_awake.mono k) awake300
theorem awk {α : Type} {g : Nat → Bool → Option α} {r : α} (h : Ev (fun k => g k true) r) : Ev (fun k => (gangsawlaw40_awake.f k).bind fun t => g k t) r := Ev.bind (f := fun k t => g k t) awake_ev h
theorem awk1 : Ev (fun k => (gangsawlaw40_awake.f k).bind fun t => (some t : Option Bool)) true := awk (g := fun k t => some t) (Ev.now true)
def few (l : List (List S46)) : Bool := if (l.length : Int) > 70 then false else l.all fun v => decide (v.length ≤ 8)
theorem few0 : ∀ (s p : List (List S46)), (p ++ s).length < 1000 → Ev (fun k => gangsawref40_Few.l0 k (p ++ s) (p.length : Int)) (s.all fun v => decide (v.length ≤ 8))
  | [], p, _ => Ev.const1 (fun k => by simp only [gangsawref40_Few.l0]; rw [if_neg (by simp)]; rfl)
  | x :: s, p, hl => by
    have hl2 : (p ++ x :: s).length = p.length + 1 + s.length := by simp; omega
    have ih := few0 s (p ++ [x]) (by rw [← app_snoc]; exact hl)
    rw [← app_snoc, len_snoc] at ih
    refine Ev.step (f := fun k => if (x.length : Int) > 8 then some false else gangsawref40_Few.l0 k (p ++ x :: s) ((p.length : Int) + 1)) (fun k => ?_) ?_
    · simp only [gangsawref40_Few.l0]
      rw [rdL_app, hl2, if_pos (by omega), if_pos (by omega), wr (x := (p.length : Int) + 1) ⟨by omega, by omega⟩]
    · rw [List.all_cons]
      by_cases c : (x.length : Int) > 8
      · simp only [if_pos c, decide_eq_false (show ¬ x.length ≤ 8 by omega), Bool.false_and]; exact Ev.now _
      · simp only [if_neg c, decide_eq_true (show x.length ≤ 8 by omega), Bool.true_and]; exact ih
theorem Few_ev (l : List (List S46)) : Ev (fun k => gangsawref40_Few.f k l) (few l) := by
  unfold few
  by_cases c : (l.length : Int) > 70
  · rw [if_pos c]; exact Ev.const (fun k => by unfold gangsawref40_Few.f; rw [if_pos c])
  · rw [if_neg c]; exact Ev.congr (f := fun k => gangsawref40_Few.l0 k l 0) (fun k => by unfold gangsawref40_Few.f; rw [if_neg c]) (few0 l [] (by simp; omega))
theorem few_len {l : List (List S46)} (h : few l = true) : l.length ≤ 70 ∧ ∀ v ∈ l, v.length ≤ 8 := by
  unfold few at h
  split at h
  · cases h
  · refine ⟨by omega, fun v hv => ?_⟩
    have := List.all_eq_true.1 h v hv
    exact of_decide_eq_true this

theorem chk_bind {α : Type} {l : List (List S46)} (hl : l.length < 1000) {G : Nat → Option α} {D : Int → α} {r : α} (h0 : ck l = 0 → Ev G r) (h1 : ck l ≠ 0 → D (ck l) = r) : Ev (fun k => (arch_Check.f k l).bind fun t => if t = 0 then G k else some (D t)) r := by
  refine Ev.bind (f := fun k t => if t = 0 then G k else some (D t)) (Check_ev l hl) ?_
  by_cases c : ck l = 0
  · simp only [if_pos c]; exact h0 c
  · simp only [if_neg c, h1 c]; exact Ev.now _
theorem Inner_err {l : List (List S46)} (hl : l.length < 1000) (h : ck l ≠ 0) : Ev (fun k => arch_Inner.f k l) ([], ck l) := chk_bind (D := fun t => ([], t)) hl (fun e => absurd e h) (fun _ => rfl)
theorem Ok.len {x : Q} {s : List Q} (h : Ok x s) : (x :: s).length < 1000 := by have := h.n64; omega
theorem Ok.len' {x : Q} {s : List Q} (h : Ok x s) : ((x :: s).map ql).length < 1000 := by rw [List.length_map]; exact h.len
theorem Inner_ev {x : Q} {s : List Q} (h : Ok x s) : Ev (fun k => arch_Inner.f k ((x :: s).map ql)) (lnB x s, 0) :=
  chk_bind (D := fun t => ([], t)) h.len' (fun _ => Ev.bind (f := fun _ t => some (t, 0)) (lineB_ev x s h.len) (Ev.now _)) (fun e => absurd (ok_ck h) e)
def xp (p q : S46) : Int := p.f0 * q.f1 - q.f0 * p.f1
abbrev NP (p : S46) : Prop := (-1000000 ≤ p.f0 ∧ p.f0 ≤ 1000000) ∧ (-1000000 ≤ p.f1 ∧ p.f1 ≤ 1000000)
theorem mul_le {a b : Int} (ha : -1000000 ≤ a ∧ a ≤ 1000000) (hb : -1000000 ≤ b ∧ b ≤ 1000000) : -1000000000000 ≤ a * b ∧ a * b ≤ 1000000000000 := by
  have h1 : 0 ≤ (1000000 - a) * (1000000 + b) := Int.mul_nonneg (by omega) (by omega)
  have h2 : 0 ≤ (1000000 + a) * (1000000 - b) := Int.mul_nonneg (by omega) (by omega)
  have h3 : 0 ≤ (1000000 - a) * (1000000 - b) := Int.mul_nonneg (by omega) (by omega)
  have h4 : 0 ≤ (1000000 + a) * (1000000 + b) := Int.mul_nonneg (by omega) (by omega)
  simp only [Int.sub_mul, Int.mul_sub, Int.add_mul, Int.mul_add] at h1 h2 h3 h4
  omega
theorem xp_le {p q : S46} (hp : NP p) (hq : NP q) : -2000000000000 ≤ xp p q ∧ xp p q ≤ 2000000000000 := by
  unfold xp
  have h1 := mul_le hp.1 hq.2
  have h2 := mul_le hq.1 hp.2
  omega
theorem xp_step {p q : S46} (hp : NP p) (hq : NP q) {n : Int} (hn : -1000000000000000000 ≤ n ∧ n ≤ 1000000000000000000) : wrap64 (n + wrap64 (wrap64 (p.f0 * q.f1) - wrap64 (q.f0 * p.f1))) = n + xp p q := by
  have h1 := mul_le hp.1 hq.2
  have h2 := mul_le hq.1 hp.2
  unfold xp
  rw [wr (x := p.f0 * q.f1) ⟨by omega, by omega⟩, wr (x := q.f0 * p.f1) ⟨by omega, by omega⟩, wr (x := p.f0 * q.f1 - q.f0 * p.f1) ⟨by omega, by omega⟩, wr ⟨by omega, by omega⟩]
def a4 (q : Q) : Int := xp q.a q.b + xp q.b q.c + xp q.c q.d + xp q.d q.a
def aS : List Q → Int
  | [] => 0
  | q :: s => a4 q + aS s
theorem a4_le {q : Q} (h : NQ q) : -8000000000000 ≤ a4 q ∧ a4 q ≤ 8000000000000 := by
  have h1 := xp_le h.a h.b
  have h2 := xp_le h.b h.c
  have h3 := xp_le h.c h.d
  have h4 := xp_le h.d h.a
  unfold a4
  omega
theorem ar_ql {q : Q} (h : NQ q) {n : Int} (hn : -900000000000000000 ≤ n ∧ n ≤ 900000000000000000) : ar (edge_upto (ql q) 4) n = n + a4 q := by
  have h1 := xp_le h.a h.b
  have h2 := xp_le h.b h.c
  have h3 := xp_le h.c h.d
  rw [edges_ql]
  simp only [ar]
  rw [xp_step h.a h.b ⟨by omega, by omega⟩, xp_step h.b h.c ⟨by omega, by omega⟩, xp_step h.c h.d ⟨by omega, by omega⟩, xp_step h.d h.a ⟨by omega, by omega⟩]
  unfold a4
  omega
theorem ars_ql (s : List Q) : ∀ (n : Int), (∀ q ∈ s, NQ q) → s.length ≤ 100 → -8000000000000000 + 8000000000000 * s.length ≤ n ∧ n ≤ 8000000000000000 - 8000000000000 * s.length → ars (s.map ql) n = n + aS s := by
  induction s with
  | nil => intro n _ _ _; simp [ars, aS]
  | cons q s ih =>
    intro n h hl hn
    have hq := h q List.mem_cons_self
    have hb := a4_le hq
    simp only [List.length_cons] at hl hn
    rw [List.map_cons, ars, show (ql q).length = 4 from rfl, ar_ql hq ⟨by omega, by omega⟩, ih _ (fun r hr => h r (List.mem_cons_of_mem _ hr)) (by omega) ⟨by omega, by omega⟩, aS]
    omega
theorem Area2_ev {x : Q} {s : List Q} (h : Ok x s) : Ev (fun k => arch_Area2.f k ((x :: s).map ql)) (aS (x :: s), 0) := by
  have hl' := h.len'
  refine Ev.bind (f := fun _ t => if t = 0 then (if ((x :: s).map ql).length < 1000 ∧ ((x :: s).map ql).all small = true then some (ars ((x :: s).map ql) 0, 0) else none) else some (0, t)) (Check_ev _ hl') ?_
  rw [ok_ck h]
  have hs : ((x :: s).map ql).all small = true := by
    rw [List.all_map]
    exact List.all_eq_true.2 fun q _ => rfl
  have n6 := h.n64
  simp only [if_true, if_pos (And.intro hl' hs)]
  rw [ars_ql (x :: s) 0 h.nq (by omega) ⟨by omega, by omega⟩, Int.zero_add]
  exact Ev.now _
theorem Area2_err {l : List (List S46)} (hl : l.length < 1000) (h : ck l ≠ 0) : Ev (fun k => arch_Area2.f k l) (0, ck l) := chk_bind (D := fun t => (0, t)) hl (fun e => absurd e h) (fun _ => rfl)

def lx (q : Q) : Int := mn (mn (mn (mn q.a.f0 q.a.f0) q.b.f0) q.c.f0) q.d.f0
def ly (q : Q) : Int := mn (mn (mn (mn q.a.f1 q.a.f1) q.b.f1) q.c.f1) q.d.f1
def hx (q : Q) : Int := mx (mx (mx (mx q.a.f0 q.a.f0) q.b.f0) q.c.f0) q.d.f0
def tq (q : Q) : Q := ⟨⟨wrap64 (q.a.f0 - lx q), wrap64 (q.a.f1 - ly q)⟩, ⟨wrap64 (q.b.f0 - lx q), wrap64 (q.b.f1 - ly q)⟩, ⟨wrap64 (q.c.f0 - lx q), wrap64 (q.c.f1 - ly q)⟩, ⟨wrap64 (q.d.f0 - lx q), wrap64 (q.d.f1 - ly q)⟩⟩
def wq (q : Q) : Int := wrap64 (hx q - lx q)
theorem template_f (k : Nat) (q : Q) : arch_template.f k (ql q) = some (ql (tq q), wq q) := by
  unfold arch_template.f
  rw [if_pos ⟨show 0 < 4 by decide, show 4 < 1000 by decide⟩]
  rfl
theorem mn_le (a b : Int) : mn a b ≤ a ∧ mn a b ≤ b ∧ (mn a b = a ∨ mn a b = b) := by unfold mn; split <;> omega
theorem lx_le (q : Q) : lx q ≤ q.a.f0 ∧ lx q ≤ q.b.f0 ∧ lx q ≤ q.c.f0 ∧ lx q ≤ q.d.f0 ∧ (lx q = q.a.f0 ∨ lx q = q.b.f0 ∨ lx q = q.c.f0 ∨ lx q = q.d.f0) := by
  unfold lx
  have h1 := mn_le q.a.f0 q.a.f0
  have h2 := mn_le (mn q.a.f0 q.a.f0) q.b.f0
  have h3 := mn_le (mn (mn q.a.f0 q.a.f0) q.b.f0) q.c.f0
  have h4 := mn_le (mn (mn (mn q.a.f0 q.a.f0) q.b.f0) q.c.f0) q.d.f0
  omega
theorem ly_le (q : Q) : ly q ≤ q.a.f1 ∧ ly q ≤ q.b.f1 ∧ ly q ≤ q.c.f1 ∧ ly q ≤ q.d.f1 ∧ (ly q = q.a.f1 ∨ ly q = q.b.f1 ∨ ly q = q.c.f1 ∨ ly q = q.d.f1) := by
  unfold ly
  have h1 := mn_le q.a.f1 q.a.f1
  have h2 := mn_le (mn q.a.f1 q.a.f1) q.b.f1
  have h3 := mn_le (mn (mn q.a.f1 q.a.f1) q.b.f1) q.c.f1
  have h4 := mn_le (mn (mn (mn q.a.f1 q.a.f1) q.b.f1) q.c.f1) q.d.f1
  omega
theorem lx_rng {q : Q} (h : NQ q) : -1000000 ≤ lx q ∧ lx q ≤ 1000000 := by have := lx_le q; have := h.a.1; have := h.b.1; have := h.c.1; have := h.d.1; omega
theorem ly_rng {q : Q} (h : NQ q) : -1000000 ≤ ly q ∧ ly q ≤ 1000000 := by have := ly_le q; have := h.a.2; have := h.b.2; have := h.c.2; have := h.d.2; omega
def tp (q : Q) : Q := ⟨⟨q.a.f0 - lx q, q.a.f1 - ly q⟩, ⟨q.b.f0 - lx q, q.b.f1 - ly q⟩, ⟨q.c.f0 - lx q, q.c.f1 - ly q⟩, ⟨q.d.f0 - lx q, q.d.f1 - ly q⟩⟩
theorem tq_tp {q : Q} (h : NQ q) : tq q = tp q := by
  have h1 := lx_rng h
  have h2 := ly_rng h
  have ha := h.a
  have hb := h.b
  have hc := h.c
  have hd := h.d
  unfold tq tp
  rw [wr (x := q.a.f0 - lx q) ⟨by omega, by omega⟩, wr (x := q.a.f1 - ly q) ⟨by omega, by omega⟩, wr (x := q.b.f0 - lx q) ⟨by omega, by omega⟩, wr (x := q.b.f1 - ly q) ⟨by omega, by omega⟩, wr (x := q.c.f0 - lx q) ⟨by omega, by omega⟩, wr (x := q.c.f1 - ly q) ⟨by omega, by omega⟩, wr (x := q.d.f0 - lx q) ⟨by omega, by omega⟩, wr (x := q.d.f1 - ly q) ⟨by omega, by omega⟩]
theorem templates0 (qs : List Q) (hq : qs.length < 1000) : ∀ (s p : List Q) (out : List (List S46)), qs = p ++ s → out.length = p.length → Ev (fun k => arch_Templates.l0 k out (qs.map ql) (qs.length : Int) (p.length : Int)) (out ++ (s.map tq).map ql, 0)
  | [], p, out, h, ho => Ev.const1 (fun k => by simp only [arch_Templates.l0]; rw [if_neg (by rw [h]; simp)]; simp)
  | x :: s, p, out, h, ho => by
    have hl2 : qs.length = p.length + 1 + s.length := by rw [h]; simp; omega
    have ih := templates0 qs hq s (p ++ [x]) (out ++ [ql (tq x)]) (by rw [← app_snoc]; exact h) (by simp [ho])
    rw [len_snoc] at ih
    refine Ev.step (f := fun k => arch_Templates.l0 k (out ++ [ql (tq x)]) (qs.map ql) (qs.length : Int) ((p.length : Int) + 1)) (fun k => ?_) ?_
    · have ex : rd_L2 (qs.map ql) (p.length : Int) = ql x := by rw [h]; exact rdQ_app p s x
      simp only [arch_Templates.l0]
      rw [ex, template_f, lenQ, hl2, if_pos (by omega), if_pos (by omega), if_pos (by omega), wrn _ (by omega)]
      simp only [if_pos (show out.length < 5864062014805 by omega)]
      rfl
    · refine Ev.eq ih ?_
      simp
def tqs (qs : List Q) : List (List S46) := (qs.map tq).map ql
theorem Templates_ev {x : Q} {s : List Q} (h : Ok x s) : Ev (fun k => arch_Templates.f k ((x :: s).map ql)) (tqs (x :: s), 0) := by
  refine chk_bind (G := fun k => arch_Templates.l0 k [] ((x :: s).map ql) (((x :: s).map ql).length : Int) 0) (D := fun t => ([], t)) h.len' (fun _ => ?_) (fun e => absurd (ok_ck h) e)
  rw [lenQ]
  exact templates0 (x :: s) h.len (x :: s) [] [] rfl rfl
theorem Templates_err {l : List (List S46)} (hl : l.length < 1000) (h : ck l ≠ 0) : Ev (fun k => arch_Templates.f k l) ([], ck l) := chk_bind (D := fun t => ([], t)) hl (fun e => absurd e h) (fun _ => rfl)
theorem jt_app : ∀ (p : List Q) (x : Q) (s : List Q) (r q : Q) (u : List Q), x :: s = p ++ r :: q :: u → jt x s = true → r.b = q.a ∧ r.c = q.d
  | [], x, s, r, q, u, h, hj => by
    obtain ⟨rfl, rfl⟩ := List.cons.inj h
    rw [jt] at hj
    simp only [Bool.and_eq_true] at hj
    exact ⟨(S46.eqb_iff _ _).1 hj.1.1, (S46.eqb_iff _ _).1 hj.1.2⟩
  | y :: p, x, s, r, q, u, h, hj => by
    obtain ⟨rfl, hs⟩ := List.cons.inj h
    cases s with
    | nil => cases p <;> cases hs
    | cons z s =>
      rw [jt] at hj
      simp only [Bool.and_eq_true] at hj
      exact jt_app p z s r q u hs hj.2
theorem lnB_at {x : Q} {s : List Q} (h : jt x s = true) (p : List Q) (q : Q) (u : List Q) (hp : x :: s = p ++ q :: u) : rd_T46 (lnB x s) (p.length : Int) = q.a ∧ rd_T46 (lnB x s) ((p.length : Int) + 1) = q.b := by
  have e2 : rd_T46 (lnB x s) ((p.length : Int) + 1) = q.b := by
    have := rdT_app (x.a :: p.map (·.b)) (u.map (·.b)) q.b
    rw [show (((x.a :: p.map (·.b)).length : Nat) : Int) = (p.length : Int) + 1 by simp] at this
    rw [← this]
    unfold lnB
    rw [hp]
    simp
  refine ⟨?_, e2⟩
  cases hc : p.reverse with
  | nil =>
    have : p = [] := by rw [← List.reverse_reverse p, hc]; rfl
    subst this
    obtain ⟨rfl, _⟩ := List.cons.inj hp
    rfl
  | cons r t =>
    have hp' : p = t.reverse ++ [r] := by rw [← List.reverse_reverse p, hc]; simp
    have h2 : x :: s = t.reverse ++ r :: q :: u := by rw [hp, hp']; simp
    rw [← (jt_app t.reverse x s r q u h2 h).1]
    have := rdT_app (x.a :: t.reverse.map (·.b)) ((q :: u).map (·.b)) r.b
    rw [show (((x.a :: t.reverse.map (·.b)).length : Nat) : Int) = (p.length : Int) by rw [hp']; simp] at this
    rw [← this]
    unfold lnB
    rw [h2]
    simp
theorem rArea_raw (k : Nat) (t : Q) : gangsawref40_Area2.f (k + 5) (ql t) = some (ar [(t.a, t.b), (t.b, t.c), (t.c, t.d), (t.d, t.a)] 0) := by kernel_rfl
abbrev N2 (p : S46) : Prop := (-3000000 ≤ p.f0 ∧ p.f0 ≤ 3000000) ∧ (-3000000 ≤ p.f1 ∧ p.f1 ≤ 3000000)
theorem mul_le2 {a b : Int} (ha : -3000000 ≤ a ∧ a ≤ 3000000) (hb : -3000000 ≤ b ∧ b ≤ 3000000) : -9000000000000 ≤ a * b ∧ a * b ≤ 9000000000000 := by
  have h1 : 0 ≤ (3000000 - a) * (3000000 + b) := Int.mul_nonneg (by omega) (by omega)
  have h2 : 0 ≤ (3000000 + a) * (3000000 - b) := Int.mul_nonneg (by omega) (by omega)
  have h3 : 0 ≤ (3000000 - a) * (3000000 - b) := Int.mul_nonneg (by omega) (by omega)
  have h4 : 0 ≤ (3000000 + a) * (3000000 + b) := Int.mul_nonneg (by omega) (by omega)
  simp only [Int.sub_mul, Int.mul_sub, Int.add_mul, Int.mul_add] at h1 h2 h3 h4
  omega
theorem xp_le2 {p q : S46} (hp : N2 p) (hq : N2 q) : -18000000000000 ≤ xp p q ∧ xp p q ≤ 18000000000000 := by
  unfold xp
  have h1 := mul_le2 hp.1 hq.2
  have h2 := mul_le2 hq.1 hp.2
  omega
theorem xp_step2 {p q : S46} (hp : N2 p) (hq : N2 q) {n : Int} (hn : -1000000000000000000 ≤ n ∧ n ≤ 1000000000000000000) : wrap64 (n + wrap64 (wrap64 (p.f0 * q.f1) - wrap64 (q.f0 * p.f1))) = n + xp p q := by
  have h1 := mul_le2 hp.1 hq.2
  have h2 := mul_le2 hq.1 hp.2
  unfold xp
  rw [wr (x := p.f0 * q.f1) ⟨by omega, by omega⟩, wr (x := q.f0 * p.f1) ⟨by omega, by omega⟩, wr (x := p.f0 * q.f1 - q.f0 * p.f1) ⟨by omega, by omega⟩, wr ⟨by omega, by omega⟩]
theorem ar_two {t : Q} (a : N2 t.a) (b : N2 t.b) (c : N2 t.c) (d : N2 t.d) : ar [(t.a, t.b), (t.b, t.c), (t.c, t.d), (t.d, t.a)] 0 = a4 t := by
  have h1 := xp_le2 a b
  have h2 := xp_le2 b c
  have h3 := xp_le2 c d
  simp only [ar]
  rw [xp_step2 a b ⟨by omega, by omega⟩, xp_step2 b c ⟨by omega, by omega⟩, xp_step2 c d ⟨by omega, by omega⟩, xp_step2 d a ⟨by omega, by omega⟩]
  unfold a4
  omega
theorem xp_shift (p q : S46) (u v : Int) : xp ⟨p.f0 - u, p.f1 - v⟩ ⟨q.f0 - u, q.f1 - v⟩ = xp p q - (p.f0 * v - q.f0 * v) - (u * q.f1 - u * p.f1) := by
  unfold xp
  simp only [Int.sub_mul, Int.mul_sub]
  omega
theorem a4_tp (q : Q) : a4 (tp q) = a4 q := by
  unfold a4 tp
  simp only [xp_shift]
  omega
theorem tp_rng {q : Q} (h : NQ q) : N2 (tp q).a ∧ N2 (tp q).b ∧ N2 (tp q).c ∧ N2 (tp q).d := by
  have h1 := lx_rng h
  have h2 := ly_rng h
  have ha := h.a
  have hb := h.b
  have hc := h.c
  have hd := h.d
  refine ⟨⟨?_, ?_⟩, ⟨?_, ?_⟩, ⟨?_, ?_⟩, ⟨?_, ?_⟩⟩ <;> simp only [tp] <;> omega
theorem rArea_tq {q : Q} (h : NQ q) : Ev (fun k => gangsawref40_Area2.f k (ql (tq q))) (a4 q) := by
  obtain ⟨a, b, c, d⟩ := tp_rng h
  rw [tq_tp h]
  refine Ev.late 5 (fun k => ?_)
  rw [rArea_raw, ar_two a b c d, a4_tp]
theorem lx_tp (q : Q) : lx (tp q) = 0 := by
  have h1 : lx (tp q) ≤ q.a.f0 - lx q ∧ lx (tp q) ≤ q.b.f0 - lx q ∧ lx (tp q) ≤ q.c.f0 - lx q ∧ lx (tp q) ≤ q.d.f0 - lx q ∧ (lx (tp q) = q.a.f0 - lx q ∨ lx (tp q) = q.b.f0 - lx q ∨ lx (tp q) = q.c.f0 - lx q ∨ lx (tp q) = q.d.f0 - lx q) := lx_le (tp q)
  have h2 := lx_le q
  omega
theorem ly_tp (q : Q) : ly (tp q) = 0 := by
  have h1 : ly (tp q) ≤ q.a.f1 - ly q ∧ ly (tp q) ≤ q.b.f1 - ly q ∧ ly (tp q) ≤ q.c.f1 - ly q ∧ ly (tp q) ≤ q.d.f1 - ly q ∧ (ly (tp q) = q.a.f1 - ly q ∨ ly (tp q) = q.b.f1 - ly q ∨ ly (tp q) = q.c.f1 - ly q ∨ ly (tp q) = q.d.f1 - ly q) := ly_le (tp q)
  have h2 := ly_le q
  omega

end Go.Proofs.Ytjlljjnkjhdljaa.XA
