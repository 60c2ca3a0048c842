import Derived.Test.YtjlljjnkjhdljaaHa
import Derived.Test.YtjlljjnkjhdljaaHb
import Derived.Test.YtjlljjnkjhdljaaHc
import Derived.Test.YtjlljjnkjhdljaaHd
import Derived.Test.YtjlljjnkjhdljaaHe
import Derived.Test.YtjlljjnkjhdljaaXAx0
import Derived.Test.YtjlljjnkjhdljaaXAx11
import Derived.Test.YtjlljjnkjhdljaaXAx12
import Derived.Test.YtjlljjnkjhdljaaXAx17
import Derived.Test.YtjlljjnkjhdljaaXAx18
import Derived.Test.YtjlljjnkjhdljaaXAx19
import Derived.Test.YtjlljjnkjhdljaaXAx20
import Derived.Test.YtjlljjnkjhdljaaXAx21
import Derived.Test.YtjlljjnkjhdljaaXAx24
import Derived.Test.YtjlljjnkjhdljaaXAx3
import Derived.Test.YtjlljjnkjhdljaaXAx30
import Derived.Test.YtjlljjnkjhdljaaXAx34
import Derived.Test.YtjlljjnkjhdljaaXAx4
import Derived.Test.YtjlljjnkjhdljaaXAx6
import Derived.Test.YtjlljjnkjhdljaaXAx7
import Derived.Test.YtjlljjnkjhdljaaXAx8
import Derived.Test.YtjlljjnkjhdljaaXAx9
set_option linter.unusedVariables false
set_option linter.unusedSimpArgs false
namespace Go.Proofs.Ytjlljjnkjhdljaa.XA
set_option linter.unusedVariables false
set_option linter.unusedSimpArgs false
open Go.RowKit Go.Proofs.Ytjlljjnkjhdljaa.Opens Go.Proofs.YtjlljjnkjhdljaaW.PrintWords Go.Proofs.YtjlljjnkjhdljaaW.PrintLast Go.Proofs.YtjlljjnkjhdljaaW.PrintMore
theorem wr {x : Int} (h : -9223372036854775808 ≤ x ∧ x ≤ 9223372036854775807) : wrap64 x = x := by unfold wrap64; omega
theorem rdT_app (p s : List S46) (e : S46) : rd_T46 (p ++ e :: s) (p.length : Int) = e := by
  simp [rd_T46, List.getD_eq_getElem?_getD]
theorem rdL_app (p s : List (List S46)) (e : List S46) : rd_L2 (p ++ e :: s) (p.length : Int) = e := by
  simp [rd_L2, List.getD_eq_getElem?_getD]
theorem len_app {α : Type} (p s : List α) (e : α) : ((p.length : Nat) : Int) < ((p ++ e :: s).length : Int) := by simp; omega
theorem app_snoc {α : Type} (p s : List α) (e : α) : p ++ e :: s = (p ++ [e]) ++ s := by simp
theorem len_snoc {α : Type} (p : List α) (e : α) : ((p ++ [e]).length : Int) = (p.length : Int) + 1 := by simp
theorem Ev.eq {α : Type} {g : Nat → Option α} {r s : α} (h : Ev g r) (e : r = s) : Ev g s := e ▸ h
theorem Ev.const {α : Type} {g : Nat → Option α} {r : α} (h : ∀ k, g k = some r) : Ev g r := ⟨0, fun k _ => h k⟩
theorem Ev.const1 {α : Type} {g : Nat → Option α} {r : α} (h : ∀ k, g (k + 1) = some r) : Ev g r := ⟨1, fun k hk => by
  obtain ⟨m, rfl⟩ : ∃ m, k = m + 1 := ⟨k - 1, by omega⟩
  exact h m⟩
theorem Ev.late {α : Type} {g : Nat → Option α} {r : α} (K : Nat) (h : ∀ k, g (k + K) = some r) : Ev g r := ⟨K, fun k hk => by
  obtain ⟨m, rfl⟩ : ∃ m, k = m + K := ⟨k - K, by omega⟩
  exact h m⟩
theorem wrn (n : Nat) (h : n < 1000000) : wrap64 ((n : Int) + 1) = (n : Int) + 1 := wr ⟨by omega, by omega⟩

def fst {α : Type} (P : α → Bool) : Int → List α → Int
  | _, [] => -1
  | i, x :: s => if P x = true then i else fst P (i + 1) s
theorem fst_any {α : Type} (P : α → Bool) : ∀ (s : List α) (i : Int), 0 ≤ i → decide (fst P i s ≥ 0) = s.any P
  | [], _, _ => rfl
  | x :: s, i, h => by
    rw [fst, List.any_cons]
    by_cases c : P x = true
    · rw [if_pos c, c, decide_eq_true h]; rfl
    · rw [if_neg c, fst_any P s (i + 1) (by omega), Bool.eq_false_iff.2 c]; rfl
theorem ix_ev {α : Type} (L : Nat → List α → Int → Int → Option Int) (g : Nat → α → Option Bool) (rdx : List α → Int → α) (hr : ∀ p s e, rdx (p ++ e :: s) ((p.length : Nat) : Int) = e)
    (hL : ∀ k xs n i, L (k + 1) xs n i = if i < n then (if 0 ≤ i then (if i < (xs.length : Int) then ((g k (rdx xs i)).bind fun t => (if t = true then (some i) else (L k xs n (wrap64 (i + 1))))) else none) else none) else (some (-1))) (P : α → Bool) :
    ∀ (s p : List α), (∀ x ∈ s, Ev (fun k => g k x) (P x)) → (p ++ s).length < 1000000 → Ev (fun k => L k (p ++ s) ((p ++ s).length : Int) (p.length : Int)) (fst P p.length s)
  | [], p, _, hl => by
    refine Ev.const1 (fun k => ?_)
    rw [hL, if_neg (by simp)]
    rfl
  | x :: s, p, hP, hl => by
    refine Ev.step (f := fun k => (g k x).bind fun t => (if t = true then (some (p.length : Int)) else (L k (p ++ x :: s) ((p ++ x :: s).length : Int) ((p.length : Int) + 1)))) (fun k => ?_) ?_
    · rw [hL, if_pos (len_app p s x), if_pos (by omega), if_pos (len_app p s x), hr, wrn _ (by simp at hl; omega)]
    · refine Ev.bind (f := fun k t => if t = true then (some (p.length : Int)) else (L k (p ++ x :: s) ((p ++ x :: s).length : Int) ((p.length : Int) + 1))) (hP x (List.mem_cons_self)) ?_
      rw [fst]
      by_cases c : P x = true
      · simp only [if_pos c]
        exact Ev.now _
      · simp only [if_neg c]
        have := ix_ev L g rdx hr hL P s (p ++ [x]) (fun y hy => hP y (List.mem_cons_of_mem _ hy)) (by rw [← app_snoc]; exact hl)
        rw [← app_snoc, len_snoc] at this
        exact this
theorem ix_any {α : Type} (L : Nat → List α → Int → Int → Option Int) (g : Nat → α → Option Bool) (rdx : List α → Int → α) (hr : ∀ p s e, rdx (p ++ e :: s) ((p.length : Nat) : Int) = e)
    (hL : ∀ k xs n i, L (k + 1) xs n i = if i < n then (if 0 ≤ i then (if i < (xs.length : Int) then ((g k (rdx xs i)).bind fun t => (if t = true then (some i) else (L k xs n (wrap64 (i + 1))))) else none) else none) else (some (-1))) (P : α → Bool)
    (s : List α) (hP : ∀ x ∈ s, Ev (fun k => g k x) (P x)) (hl : s.length < 1000000) : Ev (fun k => (L k s (s.length : Int) 0).bind fun t => some (decide (t ≥ 0))) (s.any P) := by
  have h := ix_ev L g rdx hr hL P s [] hP hl
  refine Ev.bind (f := fun _ t => some (decide (t ≥ 0))) h ?_
  rw [← fst_any P s 0 (by omega)]
  exact Ev.now _

structure Q where
  a : S46
  b : S46
  c : S46
  d : S46
def ql (q : Q) : List S46 := [q.a, q.b, q.c, q.d]
def toQ (l : List S46) : Q := ⟨rd_T46 l 0, rd_T46 l 1, rd_T46 l 2, rd_T46 l 3⟩
theorem ql_toQ (l : List S46) (h : l.length = 4) : ql (toQ l) = l := by
  match l, h with
  | [a, b, c, d], _ => rfl
theorem qs_of (l : List (List S46)) (h : l.any (fun v => (v.length : Int) != 4) = false) : (l.map toQ).map ql = l := by
  induction l with
  | nil => rfl
  | cons x l ih =>
    simp only [List.any_cons, Bool.or_eq_false_iff] at h
    rw [List.map_cons, List.map_cons, ih h.2, ql_toQ x (by have := h.1; simp at this; omega)]
theorem ql_any (qs : List Q) : (qs.map ql).any (fun v => (v.length : Int) != 4) = false := by
  induction qs with
  | nil => rfl
  | cons x l ih => rw [List.map_cons, List.any_cons, ih]; rfl
def S46.eqb (p q : S46) : Bool := (p.f0 == q.f0) && (p.f1 == q.f1)
theorem S46.ext' {p q : S46} (h0 : p.f0 = q.f0) (h1 : p.f1 = q.f1) : p = q := by cases p; cases q; simp_all
theorem S46.eqb_iff (p q : S46) : S46.eqb p q = true ↔ p = q := by
  unfold S46.eqb
  simp only [Bool.and_eq_true, beq_iff_eq]
  exact ⟨fun h => S46.ext' h.1 h.2, fun h => by rw [h]; exact ⟨rfl, rfl⟩⟩

def farB (p : S46) : Bool := decide (p.f0 < -1000000) || decide (p.f0 > 1000000) || decide (p.f1 < -1000000) || decide (p.f1 > 1000000)
theorem far_f (p : S46) : arch_far.f p.f0 p.f1 = some (farB p) := by
  unfold arch_far.f farB
  by_cases h1 : p.f0 < -1000000
  · rw [if_pos h1, decide_eq_true h1]; rfl
  · rw [if_neg h1, decide_eq_false h1]
    by_cases h2 : p.f0 > 1000000
    · rw [if_pos h2, decide_eq_true h2]; rfl
    · rw [if_neg h2, decide_eq_false h2]
      by_cases h3 : p.f1 < -1000000
      · rw [if_pos h3, decide_eq_true h3]; rfl
      · rw [if_neg h3, decide_eq_false h3]; rfl
theorem anyfar_ev (l : List S46) (hl : l.length < 1000000) : Ev (fun k => api_Point_55_by_arch_far.f k l) (l.any farB) := by
  refine Ev.congr (fun k => ?_) (ix_any api_Point_68_by_arch_far.l0 (fun _ p => arch_far.f p.f0 p.f1) rd_T46 rdT_app (fun _ _ _ _ => rfl) farB l (fun x _ => Ev.const fun _ => far_f x) hl)
  rfl
def cv (q : Q) : Bool := !(decide (crs q.a q.b q.c ≤ 0) || decide (crs q.b q.c q.d ≤ 0) || decide (crs q.c q.d q.a ≤ 0) || decide (crs q.d q.a q.b ≤ 0))
theorem cv_steps (q : Q) (k : Nat) : arch_convex.l0 (k + 1) (ql q) 4 0 = (if crs q.a q.b q.c ≤ 0 then some false else arch_convex.l0 k (ql q) 4 1) ∧ arch_convex.l0 (k + 1) (ql q) 4 1 = (if crs q.b q.c q.d ≤ 0 then some false else arch_convex.l0 k (ql q) 4 2) ∧
    arch_convex.l0 (k + 1) (ql q) 4 2 = (if crs q.c q.d q.a ≤ 0 then some false else arch_convex.l0 k (ql q) 4 3) ∧ arch_convex.l0 (k + 1) (ql q) 4 3 = (if crs q.d q.a q.b ≤ 0 then some false else arch_convex.l0 k (ql q) 4 4) ∧ arch_convex.l0 (k + 1) (ql q) 4 4 = some true :=
  ⟨by kernel_rfl, by kernel_rfl, by kernel_rfl, by kernel_rfl, by kernel_rfl⟩
theorem convex_f (q : Q) (k : Nat) : arch_convex.f (k + 5) (ql q) = some (cv q) := by
  show arch_convex.l0 (k + 5) (ql q) 4 0 = some (cv q)
  unfold cv
  rw [(cv_steps q (k + 4)).1]
  by_cases h1 : crs q.a q.b q.c ≤ 0
  · rw [if_pos h1, decide_eq_true h1]; rfl
  rw [if_neg h1, decide_eq_false h1, (cv_steps q (k + 3)).2.1]
  by_cases h2 : crs q.b q.c q.d ≤ 0
  · rw [if_pos h2, decide_eq_true h2]; rfl
  rw [if_neg h2, decide_eq_false h2, (cv_steps q (k + 2)).2.2.1]
  by_cases h3 : crs q.c q.d q.a ≤ 0
  · rw [if_pos h3, decide_eq_true h3]; rfl
  rw [if_neg h3, decide_eq_false h3, (cv_steps q (k + 1)).2.2.2.1]
  by_cases h4 : crs q.d q.a q.b ≤ 0
  · rw [if_pos h4, decide_eq_true h4]; rfl
  rw [if_neg h4, decide_eq_false h4, (cv_steps q k).2.2.2.2]; rfl
def lf (p q : S46) (y : Q) : Bool := decide (crs p q y.a > 0) || decide (crs p q y.b > 0) || decide (crs p q y.c > 0) || decide (crs p q y.d > 0)
def sp (x y : Q) : Bool := !lf x.a x.b y || !lf x.b x.c y || !lf x.c x.d y || !lf x.d x.a y
theorem lf_lefts (p q : S46) (y : Q) : lefts (p, q) (ql y) = lf p q y := by
  simp [lefts, ql, lf, Bool.or_assoc]
theorem edges_ql (x : Q) : edge_upto (ql x) 4 = [(x.a, x.b), (x.b, x.c), (x.c, x.d), (x.d, x.a)] := by kernel_rfl
theorem apart_f (k : Nat) (x y : Q) : arch_apart.f k (ql x) (ql y) = some (sp x y) := by
  unfold arch_apart.f
  rw [if_pos (by simp [ql]), show (ql x).length = 4 from rfl, edges_ql]
  simp only [apt, List.any_cons, List.any_nil, lf_lefts, Bool.or_false, sp, Bool.or_assoc]
def jt : Q → List Q → Bool
  | _, [] => true
  | p, q :: s => (S46.eqb p.b q.a && S46.eqb p.c q.d) && jt q s
def lastQ : Q → List Q → Q
  | x, [] => x
  | _, y :: s => lastQ y s
def ends (x : Q) (s : List Q) : Bool := decide (x.a.f1 = (lastQ x s).b.f1) && !decide (x.a.f0 ≥ (lastQ x s).b.f0)
def clr (x : Q) (ys : List Q) : Bool := ys.all fun y => sp x y || sp y x
def ovs : List Q → List Q → Bool
  | _, [] => true
  | p, x :: s => clr x p && ovs (p ++ [x]) s
def ckj : List Q → Int
  | [] => 0
  | x :: s => if jt x s = true then (if ends x s = true then (if ovs [] (x :: s) = true then 0 else 11) else 8) else 10
def ckq (qs : List Q) : Int := if qs.any (fun q => (ql q).any farB) = true then 6 else if qs.any (fun q => !cv q) = true then 1 else ckj qs
def ck (l : List (List S46)) : Int := if (l.length : Int) > 64 then 7 else if (l.length : Int) = 0 then 1 else if l.any (fun v => (v.length : Int) != 4) = true then 1 else ckq (l.map toQ)
theorem rdQ_app (p s : List Q) (x : Q) : rd_L2 ((p ++ x :: s).map ql) (p.length : Int) = ql x := by
  rw [List.map_append, List.map_cons, show (p.length : Int) = ((p.map ql).length : Int) by simp]
  exact rdL_app _ _ _
theorem lenQ (l : List Q) : ((l.map ql).length : Int) = (l.length : Int) := by simp
theorem neqb (p q : S46) : (!(p.f0 == q.f0) || (!(p.f1 == q.f1))) = !S46.eqb p q := by unfold S46.eqb; simp [Bool.not_and]
theorem ql4 (x : Q) : ((ql x).length : Int) = 4 := rfl
theorem cl0_step (p s : List Q) (x y : Q) (k : Nat) (n : Int) (hn : n = ((p ++ x :: y :: s).length : Int)) (hl : (p ++ x :: y :: s).length < 1000) :
    arch_Check.l0 (k + 1) ((p ++ x :: y :: s).map ql) n ((p.length : Int) + 1) = if (!S46.eqb x.b y.a) = true then some 10 else if (!S46.eqb x.c y.d) = true then some 10 else arch_Check.l0 k ((p ++ x :: y :: s).map ql) n ((p.length : Int) + 1 + 1) := by
  have hl2 : (p ++ x :: y :: s).length = p.length + 2 + s.length := by simp; omega
  have e1 : wrap64 ((p.length : Int) + 1 - 1) = (p.length : Int) := by rw [wr ⟨by omega, by omega⟩]; omega
  have e2 : rd_L2 ((p ++ x :: y :: s).map ql) ((p.length : Int) + 1) = ql y := by
    have := rdQ_app (p ++ [x]) s y
    rw [len_snoc, ← app_snoc] at this
    exact this
  simp only [arch_Check.l0]
  rw [e1, rdQ_app, e2, lenQ, hl2] 
  rw [if_pos (by omega), if_pos (by omega), if_pos (by omega), if_pos (by rw [ql4]; decide), if_pos (by omega), if_pos (by omega), if_pos (by rw [ql4]; decide)]
  rw [if_pos (show (2 : Int) < ((ql x).length : Int) by rw [ql4]; decide), if_pos (show (3 : Int) < ((ql y).length : Int) by rw [ql4]; decide)]
  rw [neqb, neqb, wr (x := (p.length : Int) + 1 + 1) ⟨by omega, by omega⟩]
  rfl
theorem cl0_ev (R : Int) : ∀ (s : List Q) (x : Q) (p : List Q), (p ++ x :: s).length < 1000 → Ev (fun k => arch_Check.l0 k ((p ++ x :: s).map ql) ((p ++ x :: s).length : Int) ((p ++ x :: s).length : Int)) R →
    Ev (fun k => arch_Check.l0 k ((p ++ x :: s).map ql) ((p ++ x :: s).length : Int) ((p.length : Int) + 1)) (if jt x s = true then R else 10)
  | [], x, p, hl, h => by
    rw [show ((p.length : Int) + 1) = ((p ++ [x]).length : Int) by simp]
    exact h
  | y :: s, x, p, hl, h => by
    have ih := cl0_ev R s y (p ++ [x]) (by rw [← app_snoc]; exact hl) (by rw [← app_snoc]; exact h)
    rw [← app_snoc, len_snoc] at ih
    refine Ev.step (fun k => cl0_step p s x y k _ rfl hl) ?_
    rw [jt]
    cases c1 : S46.eqb x.b y.a with
    | true =>
      cases c2 : S46.eqb x.c y.d with
      | true =>
        simp only [Bool.not_true, Bool.false_eq_true, if_false, Bool.and_self, Bool.true_and]
        exact ih
      | false =>
        simp only [Bool.not_true, Bool.not_false, Bool.false_eq_true, if_false, if_true, Bool.and_false, Bool.false_and]
        exact Ev.now _
    | false =>
      simp only [Bool.not_false, Bool.false_eq_true, if_false, if_true, Bool.false_and]
      exact Ev.now _
theorem cl2_ev (x : Q) (L : List (List S46)) (n i R : Int) (h : Ev (fun k => arch_Check.l1 k L L n (wrap64 (i + 1))) R) : ∀ (s p : List Q), (p ++ s).length < 1000 →
    Ev (fun k => arch_Check.l2 k L (ql x) L n i ((p ++ s).map ql) (((p ++ s).map ql).length : Int) (p.length : Int)) (if clr x s = true then R else 11)
  | [], p, hl => by
    refine Ev.step (fun k => by simp only [arch_Check.l2]; rw [if_neg (by simp)]) ?_
    exact h
  | y :: s, p, hl => by
    have hl2 : (p ++ y :: s).length = p.length + 1 + s.length := by simp; omega
    have ih := cl2_ev x L n i R h s (p ++ [y]) (by rw [← app_snoc]; exact hl)
    rw [← app_snoc, len_snoc] at ih
    refine Ev.step (f := fun k => if sp x y = true then arch_Check.l2 k L (ql x) L n i ((p ++ y :: s).map ql) (((p ++ y :: s).map ql).length : Int) ((p.length : Int) + 1) else if sp y x = true then arch_Check.l2 k L (ql x) L n i ((p ++ y :: s).map ql) (((p ++ y :: s).map ql).length : Int) ((p.length : Int) + 1) else some 11) (fun k => ?_) ?_
    · simp only [arch_Check.l2]
      rw [rdQ_app, lenQ, hl2, if_pos (by omega), if_pos (by omega), if_pos (by omega), apart_f, apart_f, wr (x := (p.length : Int) + 1) ⟨by omega, by omega⟩]
      rfl
    · unfold clr at ih ⊢
      rw [List.all_cons]
      by_cases c1 : sp x y = true
      · rw [c1]; simp only [if_true, Bool.true_or, Bool.true_and]; exact ih
      · rw [Bool.eq_false_iff.2 c1]
        simp only [Bool.false_or, Bool.false_eq_true, if_false]
        by_cases c2 : sp y x = true
        · rw [c2]; simp only [if_true, Bool.true_and]; exact ih
        · rw [Bool.eq_false_iff.2 c2]; simp only [Bool.false_and, Bool.false_eq_true, if_false]; exact Ev.now _
theorem cl1_ev : ∀ (s p : List Q), (p ++ s).length < 1000 → Ev (fun k => arch_Check.l1 k ((p ++ s).map ql) ((p ++ s).map ql) ((p ++ s).length : Int) (p.length : Int)) (if ovs p s = true then 0 else 11)
  | [], p, hl => by
    refine Ev.const1 (fun k => ?_)
    simp only [arch_Check.l1]
    rw [if_neg (by simp)]
    rfl
  | x :: s, p, hl => by
    have hl2 : (p ++ x :: s).length = p.length + 1 + s.length := by simp; omega
    have ih := cl1_ev s (p ++ [x]) (by rw [← app_snoc]; exact hl)
    rw [← app_snoc, len_snoc] at ih
    refine Ev.step (f := fun k => arch_Check.l2 k ((p ++ x :: s).map ql) (ql x) ((p ++ x :: s).map ql) ((p ++ x :: s).length : Int) (p.length : Int) (p.map ql) ((p.map ql).length : Int) 0) (fun k => ?_) ?_
    · simp only [arch_Check.l1]
      rw [rdQ_app, lenQ, hl2, if_pos (by omega), if_pos (by omega), if_pos (by omega), if_pos (by omega), Option.bind_some]
      rw [show ((p ++ x :: s).map ql).take (p.length : Int).toNat = p.map ql by rw [Int.toNat_natCast, List.map_append, List.take_left' (by simp)]]
    · have := cl2_ev x ((p ++ x :: s).map ql) ((p ++ x :: s).length : Int) (p.length : Int) _ (by rw [wr (x := (p.length : Int) + 1) ⟨by omega, by omega⟩]; exact ih) p [] (by simp only [List.nil_append]; omega)
      refine Ev.eq this ?_
      rw [ovs]
      cases clr x p <;> simp
theorem last_app : ∀ (s : List Q) (x : Q), ∃ p, x :: s = p ++ [lastQ x s] ∧ p.length = s.length
  | [], x => ⟨[], rfl, rfl⟩
  | y :: s, x => by
    obtain ⟨p, h1, h2⟩ := last_app s y
    exact ⟨x :: p, congrArg (x :: ·) h1, by simp [h2]⟩
theorem rdQ_last (s : List Q) (x : Q) : rd_L2 ((x :: s).map ql) (s.length : Int) = ql (lastQ x s) := by
  obtain ⟨p, h1, h2⟩ := last_app s x
  rw [h1, ← h2]
  exact rdQ_app p [] _
theorem springings_f (x : Q) (s : List Q) (hl : (x :: s).length < 1000) : arch_springings.f ((x :: s).map ql) = some (x.a.f0, x.a.f1, (lastQ x s).b.f0, (lastQ x s).b.f1) := by
  have hl2 : (x :: s).length = s.length + 1 := by simp
  unfold arch_springings.f
  have e : wrap64 ((((x :: s).map ql).length : Int) - 1) = (s.length : Int) := by rw [lenQ, hl2, wr ⟨by omega, by omega⟩]; omega
  rw [e, lenQ, hl2, rdQ_last, show rd_L2 ((x :: s).map ql) 0 = ql x from rdQ_app [] s x]
  rw [if_pos (by omega), if_pos (by rw [ql4]; decide), if_pos (by omega), if_pos (by omega), if_pos (by rw [ql4]; decide)]
  rfl
theorem ckj_ev (x : Q) (s : List Q) (hl : (x :: s).length < 1000) : Ev (fun k => arch_Check.l0 k ((x :: s).map ql) ((x :: s).length : Int) 1) (ckj (x :: s)) := by
  have h := cl0_ev (if ends x s = true then (if ovs [] (x :: s) = true then 0 else 11) else 8) s x [] hl ?_
  · exact h
  · refine Ev.step (f := fun k => if x.a.f1 = (lastQ x s).b.f1 then arch_Check.j2 k ((x :: s).map ql) (decide (x.a.f0 ≥ (lastQ x s).b.f0)) else arch_Check.j2 k ((x :: s).map ql) true) (fun k => ?_) ?_
    · simp only [arch_Check.l0]
      rw [if_neg (by omega), List.nil_append, springings_f x s hl, Option.bind_some]
    · have key : ∀ b : Bool, Ev (fun k => arch_Check.j2 k ((x :: s).map ql) b) (if b = true then 8 else if ovs [] (x :: s) = true then 0 else 11) := fun b => by
        refine Ev.step (f := fun k => if b = true then some 8 else arch_Check.l1 k ((x :: s).map ql) ((x :: s).map ql) ((x :: s).length : Int) 0) (fun k => by simp only [arch_Check.j2]; rw [lenQ]) ?_
        cases b with
        | true => exact Ev.now _
        | false => exact cl1_ev (x :: s) [] hl
      unfold ends
      by_cases c : x.a.f1 = (lastQ x s).b.f1
      · simp only [if_pos c, decide_eq_true c, Bool.true_and]
        refine Ev.eq (key _) ?_
        by_cases c2 : x.a.f0 ≥ (lastQ x s).b.f0 <;> simp [c2]
      · simp only [if_neg c, decide_eq_false c, Bool.false_and]
        exact key true
theorem Check_ev (l : List (List S46)) (hl : l.length < 1000) : Ev (fun k => arch_Check.f k l) (ck l) := by
  unfold ck
  by_cases h7 : (l.length : Int) > 64
  · rw [if_pos h7]
    exact Ev.const (fun k => by unfold arch_Check.f; rw [if_pos h7])
  rw [if_neg h7]
  by_cases h0 : (l.length : Int) = 0
  · rw [if_pos h0]
    refine Ev.late 1 (fun k => ?_)
    unfold arch_Check.f
    rw [if_neg h7, if_pos h0]
    rfl
  rw [if_neg h0]
  refine Ev.congr (f := fun k => (api_Polygon_53_by_arch_Check_1.f k l).bind fun t => arch_Check.j0 k l (l.length : Int) t) (fun k => by unfold arch_Check.f; rw [if_neg h7, if_neg h0]) ?_
  refine Ev.bind (f := fun k t => arch_Check.j0 k l (l.length : Int) t) (ix_any api_Polygon_50_by_arch_Check_1.l0 (fun _ v => arch_Check_1.f v) rd_L2 rdL_app (fun _ _ _ _ => rfl) (fun v => (v.length : Int) != 4) l (fun v _ => Ev.const fun _ => rfl) (by omega)) ?_
  by_cases h4 : l.any (fun v => (v.length : Int) != 4) = true
  · rw [if_pos h4, h4]
    exact Ev.late 1 (fun k => rfl)
  rw [if_neg h4]
  replace h4 := Bool.eq_false_iff.2 h4
  rw [h4]
  have hq := qs_of l h4
  generalize l.map toQ = qs at hq
  subst hq
  simp only [List.length_map] at hl h0 h7
  unfold ckq
  refine Ev.step (f := fun k => (api_Polygon_53_by_arch_Check_2.f k (qs.map ql)).bind fun t => if t = true then some 6 else (api_Polygon_53_by_arch_Check_3.f k (qs.map ql)).bind fun t => if t = true then some 1 else arch_Check.l0 k (qs.map ql) ((qs.map ql).length : Int) 1) (fun k => rfl) ?_
  refine Ev.bind (f := fun k t => if t = true then some 6 else (api_Polygon_53_by_arch_Check_3.f k (qs.map ql)).bind fun t => if t = true then some 1 else arch_Check.l0 k (qs.map ql) ((qs.map ql).length : Int) 1) (ix_any api_Polygon_50_by_arch_Check_2.l0 (fun k v => arch_Check_2.f k v) rd_L2 rdL_app (fun _ _ _ _ => rfl) (fun v => v.any farB) (qs.map ql) (fun v hv => ?_) (by rw [List.length_map]; omega)) ?_
  · obtain ⟨q, _, rfl⟩ := List.mem_map.1 hv
    exact Ev.bind (f := fun _ t => some t) (anyfar_ev (ql q) (show 4 < 1000000 by decide)) (Ev.now _)
  rw [List.any_map]
  by_cases hf : qs.any (fun q => (ql q).any farB) = true
  · rw [if_pos hf, show (qs.any ((fun v => v.any farB) ∘ ql)) = true from hf]
    exact Ev.now _
  rw [if_neg hf, show (qs.any ((fun v => v.any farB) ∘ ql)) = false from Bool.eq_false_iff.2 hf]
  simp only [Bool.false_eq_true, if_false]
  refine Ev.bind (f := fun k t => if t = true then some 1 else arch_Check.l0 k (qs.map ql) ((qs.map ql).length : Int) 1) (ix_any api_Polygon_50_by_arch_Check_3.l0 (fun k v => arch_Check_3.f k v) rd_L2 rdL_app (fun _ _ _ _ => rfl) (fun v => !cv (toQ v)) (qs.map ql) (fun v hv => ?_) (by rw [List.length_map]; omega)) ?_
  · obtain ⟨q, _, rfl⟩ := List.mem_map.1 hv
    exact Ev.late 5 (fun k => by unfold arch_Check_3.f; rw [convex_f]; rfl)
  rw [List.any_map]
  by_cases hc : qs.any (fun q => !cv q) = true
  · rw [if_pos hc, show (qs.any ((fun v => !cv (toQ v)) ∘ ql)) = true from hc]
    exact Ev.now _
  rw [if_neg hc, show (qs.any ((fun v => !cv (toQ v)) ∘ ql)) = false from Bool.eq_false_iff.2 hc]
  simp only [Bool.false_eq_true, if_false]
  cases qs with
  | nil => exact absurd rfl h0
  | cons x s =>
    rw [lenQ]
    exact ckj_ev x s hl

structure Ok (x : Q) (s : List Q) : Prop where
  n64 : (x :: s).length ≤ 64
  near : ∀ q ∈ x :: s, ∀ p ∈ ql q, farB p = false
  conv : ∀ q ∈ x :: s, cv q = true
  join : jt x s = true
  ends : ends x s = true
  over : ovs [] (x :: s) = true
theorem ok_ck {x : Q} {s : List Q} (h : Ok x s) : ck ((x :: s).map ql) = 0 := by
  unfold ck
  rw [if_neg (by rw [lenQ]; have := h.n64; omega), if_neg (by rw [lenQ]; simp; omega), ql_any, if_neg (by decide)]
  rw [show ((x :: s).map ql).map toQ = x :: s by rw [List.map_map]; exact List.map_id' _]
  unfold ckq
  rw [if_neg, if_neg]
  · rw [ckj, h.join, h.ends, h.over]
    rfl
  · rw [Bool.not_eq_true, List.any_eq_false]
    intro q hq
    rw [h.conv q hq]; decide
  · rw [Bool.not_eq_true, List.any_eq_false]
    intro q hq
    rw [Bool.not_eq_true, List.any_eq_false]
    intro p hp
    rw [h.near q hq p hp]; decide
theorem ok_of {l : List (List S46)} (h : ck l = 0) : ∃ x s, l = (x :: s).map ql ∧ Ok x s := by
  unfold ck at h
  split at h
  · cases h
  rename_i h7
  split at h
  · cases h
  rename_i h0
  split at h
  · cases h
  rename_i h4
  have hq := qs_of l (Bool.eq_false_iff.2 h4)
  generalize l.map toQ = qs at hq h
  subst hq
  unfold ckq at h
  split at h
  · cases h
  rename_i hf
  split at h
  · cases h
  rename_i hc
  cases qs with
  | nil => exact absurd rfl h0
  | cons x s =>
    refine ⟨x, s, rfl, ?_⟩
    rw [ckj] at h
    split at h
    · rename_i h1
      split at h
      · rename_i h2
        split at h
        · rename_i h3
          rw [Bool.not_eq_true, List.any_eq_false] at hf hc
          refine ⟨by rw [lenQ] at h7; omega, fun q hq p hp => ?_, fun q hq => ?_, h1, h2, h3⟩
          · have := hf q hq
            rw [Bool.not_eq_true, List.any_eq_false] at this
            exact Bool.eq_false_iff.2 (this p hp)
          · have := hc q hq
            cases hv : cv q with
            | true => rfl
            | false => rw [hv] at this; exact absurd rfl this
        · cases h
      · cases h
    · cases h
theorem near_of {p : S46} (h : farB p = false) : (-1000000 ≤ p.f0 ∧ p.f0 ≤ 1000000) ∧ (-1000000 ≤ p.f1 ∧ p.f1 ≤ 1000000) := by
  unfold farB at h
  simp only [Bool.or_eq_false_iff, decide_eq_false_iff_not] at h
  omega
structure NQ (q : Q) : Prop where
  a : (-1000000 ≤ q.a.f0 ∧ q.a.f0 ≤ 1000000) ∧ (-1000000 ≤ q.a.f1 ∧ q.a.f1 ≤ 1000000)
  b : (-1000000 ≤ q.b.f0 ∧ q.b.f0 ≤ 1000000) ∧ (-1000000 ≤ q.b.f1 ∧ q.b.f1 ≤ 1000000)
  c : (-1000000 ≤ q.c.f0 ∧ q.c.f0 ≤ 1000000) ∧ (-1000000 ≤ q.c.f1 ∧ q.c.f1 ≤ 1000000)
  d : (-1000000 ≤ q.d.f0 ∧ q.d.f0 ≤ 1000000) ∧ (-1000000 ≤ q.d.f1 ∧ q.d.f1 ≤ 1000000)
theorem Ok.nq {x : Q} {s : List Q} (h : Ok x s) (q : Q) (hq : q ∈ x :: s) : NQ q :=
  ⟨near_of (h.near q hq _ (by simp [ql])), near_of (h.near q hq _ (by simp [ql])), near_of (h.near q hq _ (by simp [ql])), near_of (h.near q hq _ (by simp [ql]))⟩
theorem last_mem : ∀ (s : List Q) (x : Q), lastQ x s ∈ x :: s
  | [], x => List.mem_cons_self
  | y :: s, x => List.mem_cons_of_mem _ (last_mem s y)

def eqLn : List S46 → List S46 → Bool
  | [], [] => true
  | x :: a, y :: b => S46.eqb x y && eqLn a b
  | _, _ => false
theorem eqLn_iff : ∀ (a b : List S46), eqLn a b = true ↔ a = b
  | [], [] => by simp [eqLn]
  | [], _ :: _ => by simp [eqLn]
  | _ :: _, [] => by simp [eqLn]
  | x :: a, y :: b => by simp [eqLn, S46.eqb_iff, eqLn_iff a b]
theorem eqLn_len : ∀ (a b : List S46), a.length ≠ b.length → eqLn a b = false
  | a, b, h => Bool.eq_false_iff.2 fun e => h (by rw [(eqLn_iff a b).1 e])
def eqLL : List (List S46) → List (List S46) → Bool
  | [], [] => true
  | x :: a, y :: b => eqLn x y && eqLL a b
  | _, _ => false
theorem eqLL_iff : ∀ (a b : List (List S46)), eqLL a b = true ↔ a = b
  | [], [] => by simp [eqLL]
  | [], _ :: _ => by simp [eqLL]
  | _ :: _, [] => by simp [eqLL]
  | x :: a, y :: b => by simp [eqLL, eqLn_iff, eqLL_iff a b]
theorem eqLL_len : ∀ (a b : List (List S46)), a.length ≠ b.length → eqLL a b = false
  | a, b, h => Bool.eq_false_iff.2 fun e => h (by rw [(eqLL_iff a b).1 e])
theorem sameLine0 : ∀ (s s' p p' : List S46), p.length = p'.length → s.length = s'.length → (p ++ s).length < 1000000 → Ev (fun k => gangsawref40_SameLine.l0 k (p ++ s) (p' ++ s') (p.length : Int)) (eqLn s s')
  | [], [], p, p', _, _, _ => Ev.const1 (fun k => by simp only [gangsawref40_SameLine.l0]; rw [if_neg (by simp)]; rfl)
  | x :: s, y :: s', p, p', h1, h2, hl => by
    have hl2 : (p ++ x :: s).length = p.length + 1 + s.length := by simp; omega
    have hl3 : (p' ++ y :: s').length = p'.length + 1 + s'.length := by simp; omega
    have hs : s.length = s'.length := by simpa using h2
    have ih := sameLine0 s s' (p ++ [x]) (p' ++ [y]) (by simp [h1]) hs (by rw [← app_snoc]; exact hl)
    rw [← app_snoc, ← app_snoc, len_snoc] at ih
    refine Ev.step (f := fun k => if (!S46.eqb x y) = true then some false else gangsawref40_SameLine.l0 k (p ++ x :: s) (p' ++ y :: s') ((p.length : Int) + 1)) (fun k => ?_) ?_
    · have e2 : rd_T46 (p' ++ y :: s') (p.length : Int) = y := by rw [h1]; exact rdT_app p' s' y
      simp only [gangsawref40_SameLine.l0]
      rw [rdT_app, e2, hl2, hl3, if_pos (by omega), if_pos (by omega), if_pos (by omega), neqb, wr (x := (p.length : Int) + 1) ⟨by omega, by omega⟩]
    · rw [eqLn]
      cases S46.eqb x y with
      | true => simp only [Bool.not_true, Bool.false_eq_true, if_false, Bool.true_and]; exact ih
      | false => simp only [Bool.not_false, if_true, Bool.false_and]; exact Ev.now _
theorem SameLine_ev (a b : List S46) (h : a.length < 1000000) : Ev (fun k => gangsawref40_SameLine.f k a b) (eqLn a b) := by
  by_cases c : (a.length : Int) = (b.length : Int)
  · exact Ev.congr (f := fun k => gangsawref40_SameLine.l0 k a b 0) (fun k => by unfold gangsawref40_SameLine.f; rw [if_pos c]) (sameLine0 a b [] [] rfl (by omega) h)
  · rw [eqLn_len a b (by omega)]
    exact Ev.const (fun k => by unfold gangsawref40_SameLine.f; rw [if_neg c])
theorem same0 : ∀ (s s' p p' : List (List S46)), p.length = p'.length → s.length = s'.length → (p ++ s).length < 1000000 → (∀ x ∈ s, x.length < 1000000) → Ev (fun k => gangsawref40_Same.l0 k (p ++ s) (p' ++ s') (p.length : Int)) (eqLL s s')
  | [], [], p, p', _, _, _, _ => Ev.const1 (fun k => by simp only [gangsawref40_Same.l0]; rw [if_neg (by simp)]; rfl)
  | x :: s, y :: s', p, p', h1, h2, hl, hx => by
    have hl2 : (p ++ x :: s).length = p.length + 1 + s.length := by simp; omega
    have hl3 : (p' ++ y :: s').length = p'.length + 1 + s'.length := by simp; omega
    have hs : s.length = s'.length := by simpa using h2
    have ih := same0 s s' (p ++ [x]) (p' ++ [y]) (by simp [h1]) hs (by rw [← app_snoc]; exact hl) (fun z hz => hx z (List.mem_cons_of_mem _ hz))
    rw [← app_snoc, ← app_snoc, len_snoc] at ih
    refine Ev.step (f := fun k => (gangsawref40_SameLine.f k x y).bind fun t => if t = true then gangsawref40_Same.l0 k (p ++ x :: s) (p' ++ y :: s') ((p.length : Int) + 1) else some false) (fun k => ?_) ?_
    · have e2 : rd_L2 (p' ++ y :: s') (p.length : Int) = y := by rw [h1]; exact rdL_app p' s' y
      simp only [gangsawref40_Same.l0]
      rw [rdL_app, e2, hl2, hl3, if_pos (by omega), if_pos (by omega), if_pos (by omega), wr (x := (p.length : Int) + 1) ⟨by omega, by omega⟩]
    · refine Ev.bind (f := fun k t => if t = true then gangsawref40_Same.l0 k (p ++ x :: s) (p' ++ y :: s') ((p.length : Int) + 1) else some false) (SameLine_ev x y (hx x List.mem_cons_self)) ?_
      rw [eqLL]
      cases eqLn x y with
      | true => simp only [if_true, Bool.true_and]; exact ih
      | false => simp only [Bool.false_eq_true, if_false, Bool.false_and]; exact Ev.now _
theorem Same_ev (a b : List (List S46)) (h : a.length < 1000000) (hx : ∀ x ∈ a, x.length < 1000000) : Ev (fun k => gangsawref40_Same.f k a b) (eqLL a b) := by
  by_cases c : (a.length : Int) = (b.length : Int)
  · exact Ev.congr (f := fun k => gangsawref40_Same.l0 k a b 0) (fun k => by unfold gangsawref40_Same.f; rw [if_pos c]) (same0 a b [] [] rfl (by omega) h hx)
  · rw [eqLL_len a b (by omega)]
    exact Ev.const (fun k => by unfold gangsawref40_Same.f; rw [if_neg c])
theorem equal0 : ∀ (s s' p p' : List S46) (n : Int), n = ((p ++ s).length : Int) → p.length = p'.length → s.length = s'.length → (p ++ s).length < 1000000 → Ev (fun k => api_Point_65.l0 k (p ++ s) (p' ++ s') n (p.length : Int)) (eqLn s s')
  | [], [], p, p', n, hn, _, _, _ => Ev.const1 (fun k => by simp only [api_Point_65.l0]; rw [if_neg (by rw [hn]; simp)]; rfl)
  | x :: s, y :: s', p, p', n, hn, h1, h2, hl => by
    have hl2 : (p ++ x :: s).length = p.length + 1 + s.length := by simp; omega
    have hl3 : (p' ++ y :: s').length = p'.length + 1 + s'.length := by simp; omega
    have hs : s.length = s'.length := by simpa using h2
    have ih := equal0 s s' (p ++ [x]) (p' ++ [y]) n (by rw [← app_snoc]; exact hn) (by simp [h1]) hs (by rw [← app_snoc]; exact hl)
    rw [← app_snoc, ← app_snoc, len_snoc] at ih
    refine Ev.step (f := fun k => if (!S46.eqb x y) = true then some false else api_Point_65.l0 k (p ++ x :: s) (p' ++ y :: s') n ((p.length : Int) + 1)) (fun k => ?_) ?_
    · have e2 : rd_T46 (p' ++ y :: s') (p.length : Int) = y := by rw [h1]; exact rdT_app p' s' y
      simp only [api_Point_65.l0]
      rw [rdT_app, e2, hl3, if_pos (by rw [hn, hl2]; omega), if_pos (by omega), hl2, if_pos (by omega), if_pos (by omega), neqb, wr (x := (p.length : Int) + 1) ⟨by omega, by omega⟩]
    · rw [eqLn]
      cases S46.eqb x y with
      | true => simp only [Bool.not_true, Bool.false_eq_true, if_false, Bool.true_and]; exact ih
      | false => simp only [Bool.not_false, if_true, Bool.false_and]; exact Ev.now _
theorem same_ev (a b : List S46) (h : a.length < 1000000) : Ev (fun k => arch_same.f k a b) (eqLn a b) := by
  refine Ev.bind (f := fun _ t => some t) (g := fun k => api_Point_65.f k a b) ?_ (Ev.now _)
  by_cases c : (a.length : Int) = (b.length : Int)
  · exact Ev.congr (f := fun k => api_Point_65.l0 k a b (a.length : Int) 0) (fun k => by unfold api_Point_65.f; rw [if_pos c]) (equal0 a b [] [] _ rfl rfl (by omega) h)
  · rw [eqLn_len a b (by omega)]
    exact Ev.const (fun k => by unfold api_Point_65.f; rw [if_neg c])
theorem equalF0 : ∀ (s s' p p' : List (List S46)) (n : Int), n = ((p ++ s).length : Int) → p.length = p'.length → s.length = s'.length → (p ++ s).length < 1000000 → (∀ x ∈ s, x.length < 1000000) → Ev (fun k => api_Polygon_40_by_arch_same.l0 k (p' ++ s') (p ++ s) n (p.length : Int)) (eqLL s s')
  | [], [], p, p', n, hn, _, _, _, _ => Ev.const1 (fun k => by simp only [api_Polygon_40_by_arch_same.l0]; rw [if_neg (by rw [hn]; simp)]; rfl)
  | x :: s, y :: s', p, p', n, hn, h1, h2, hl, hx => by
    have hl2 : (p ++ x :: s).length = p.length + 1 + s.length := by simp; omega
    have hl3 : (p' ++ y :: s').length = p'.length + 1 + s'.length := by simp; omega
    have hs : s.length = s'.length := by simpa using h2
    have ih := equalF0 s s' (p ++ [x]) (p' ++ [y]) n (by rw [← app_snoc]; exact hn) (by simp [h1]) hs (by rw [← app_snoc]; exact hl) (fun z hz => hx z (List.mem_cons_of_mem _ hz))
    rw [← app_snoc, ← app_snoc, len_snoc] at ih
    refine Ev.step (f := fun k => (arch_same.f k x y).bind fun t => if t = true then api_Polygon_40_by_arch_same.l0 k (p' ++ y :: s') (p ++ x :: s) n ((p.length : Int) + 1) else some false) (fun k => ?_) ?_
    · have e2 : rd_L2 (p' ++ y :: s') (p.length : Int) = y := by rw [h1]; exact rdL_app p' s' y
      simp only [api_Polygon_40_by_arch_same.l0]
      rw [rdL_app, e2, hl3, if_pos (by rw [hn, hl2]; omega), if_pos (by omega), hl2, if_pos (by omega), if_pos (by omega), wr (x := (p.length : Int) + 1) ⟨by omega, by omega⟩]
    · refine Ev.bind (f := fun k t => if t = true then api_Polygon_40_by_arch_same.l0 k (p' ++ y :: s') (p ++ x :: s) n ((p.length : Int) + 1) else some false) (same_ev x y (hx x List.mem_cons_self)) ?_
      rw [eqLL]
      cases eqLn x y with
      | true => simp only [if_true, Bool.true_and]; exact ih
      | false => simp only [Bool.false_eq_true, if_false, Bool.false_and]; exact Ev.now _
theorem equalF_ev (a b : List (List S46)) (h : a.length < 1000000) (hx : ∀ x ∈ a, x.length < 1000000) : Ev (fun k => api_Polygon_40_by_arch_same.f k a b) (eqLL a b) := by
  by_cases c : (a.length : Int) = (b.length : Int)
  · exact Ev.congr (f := fun k => api_Polygon_40_by_arch_same.l0 k b a (a.length : Int) 0) (fun k => by unfold api_Polygon_40_by_arch_same.f; rw [if_pos c]) (equalF0 a b [] [] _ rfl rfl (by omega) h hx)
  · rw [eqLL_len a b (by omega)]
    exact Ev.const (fun k => by unfold api_Polygon_40_by_arch_same.f; rw [if_neg c])

def fq (S : Int) (q : Q) : Q := ⟨⟨wrap64 (S - q.b.f0), q.b.f1⟩, ⟨wrap64 (S - q.a.f0), q.a.f1⟩, ⟨wrap64 (S - q.d.f0), q.d.f1⟩, ⟨wrap64 (S - q.c.f0), q.c.f1⟩⟩
theorem flip_f (S : Int) (q : Q) (k : Nat) : arch_flip.f (k + 5) (ql q) S = some (ql (fq S q)) := by kernel_rfl
theorem mir_ev (S : Int) : ∀ qs : List Q, Ev (fun k => mir k S (qs.map ql)) ((qs.map (fq S)).map ql)
  | [] => Ev.const fun _ => rfl
  | q :: qs => by
    refine Ev.congr (f := fun k => (arch_flip.f k (ql q) S).bind fun r => (mir k S (qs.map ql)).bind fun rs => some (r :: rs)) (fun _ => rfl) ?_
    refine Ev.bind (f := fun k r => (mir k S (qs.map ql)).bind fun rs => some (r :: rs)) (Ev.late 5 fun k => flip_f S q k) ?_
    exact Ev.bind (f := fun _ rs => some (ql (fq S q) :: rs)) (mir_ev S qs) (Ev.now _)
def sumX (x : Q) (s : List Q) : Int := wrap64 (x.a.f0 + (lastQ x s).b.f0)
def mirQ (x : Q) (s : List Q) : List Q := ((x :: s).map (fq (sumX x s))).reverse
theorem mirror_ev (x : Q) (s : List Q) (hl : (x :: s).length < 1000) : Ev (fun k => arch_mirror.f k ((x :: s).map ql)) ((mirQ x s).map ql) := by
  refine Ev.congr (f := fun k => mir k (sumX x s) ((x :: s).reverse.map ql)) (fun k => ?_) ?_
  · unfold arch_mirror.f
    rw [springings_f x s hl, Option.bind_some, if_pos (by rw [List.length_map]; exact hl), List.map_reverse]
    rfl
  · refine Ev.eq (mir_ev (sumX x s) (x :: s).reverse) ?_
    unfold mirQ
    rw [← List.map_reverse]
def lnB (x : Q) (s : List Q) : List S46 := x.a :: (x :: s).map (·.b)
theorem line0 (j : Int) (pr : Q → S46) (hj : ∀ q, rd_T46 (ql q) j = pr q) (j0 : 0 ≤ j) (j1 : j < 4) : ∀ (s p : List Q) (acc : List S46) (n : Int), n = ((p ++ s).length : Int) → (p ++ s).length < 1000 → acc.length + s.length < 2000 →
    Ev (fun k => arch_line.l0 k j acc ((p ++ s).map ql) n (p.length : Int)) (acc ++ s.map pr)
  | [], p, acc, n, hn, _, _ => Ev.const1 (fun k => by simp only [arch_line.l0]; rw [if_neg (by rw [hn]; simp)]; simp)
  | x :: s, p, acc, n, hn, hl, ha => by
    have hl2 : (p ++ x :: s).length = p.length + 1 + s.length := by simp; omega
    have ih := line0 j pr hj j0 j1 s (p ++ [x]) (acc ++ [pr x]) n (by rw [← app_snoc]; exact hn) (by rw [← app_snoc]; exact hl) (by simp at ha ⊢; omega)
    rw [← app_snoc, len_snoc] at ih
    refine Ev.step (f := fun k => arch_line.l0 k j (acc ++ [pr x]) ((p ++ x :: s).map ql) n ((p.length : Int) + 1)) (fun k => ?_) ?_
    · simp only [arch_line.l0]
      rw [rdQ_app, hj, lenQ, if_pos (by rw [hn, hl2]; omega), if_pos (by omega), hl2, if_pos (by omega), if_pos j0, if_pos (by rw [ql4]; exact j1), if_pos (by simp at ha; omega), wr (x := (p.length : Int) + 1) ⟨by omega, by omega⟩]
    · refine Ev.eq ih ?_
      simp
theorem lineB_ev (x : Q) (s : List Q) (hl : (x :: s).length < 1000) : Ev (fun k => arch_line.f k ((x :: s).map ql) 0 1) (lnB x s) := by
  refine Ev.congr (f := fun k => arch_line.l0 k 1 [x.a] ((x :: s).map ql) ((x :: s).length : Int) 0) (fun k => ?_) (line0 1 (·.b) (fun _ => rfl) (by omega) (by omega) (x :: s) [] [x.a] _ rfl hl (by simp at hl ⊢; omega))
  unfold arch_line.f
  have e0 : rd_L2 ((x :: s).map ql) 0 = ql x := rdQ_app [] s x
  rw [e0, lenQ, if_pos (by first | (simp; done) | (simp; omega)), if_pos (by decide), if_pos (by rw [ql4]; decide)]
  rfl
theorem lnB_len (x : Q) (s : List Q) : (lnB x s).length = s.length + 2 := by simp [lnB]
def hiy : List S46 → Int → Int
  | [], n => n
  | c :: l, n => hiy l (mx n c.f1)
def rsy (a : Int) : List S46 → Int → Int
  | [], n => n
  | c :: l, n => rsy a l (mx n (wrap64 (c.f1 - a)))
theorem rsy_hiy (a : Int) (ha : -1000000 ≤ a ∧ a ≤ 1000000) : ∀ (l : List S46) (n : Int), (∀ c ∈ l, -1000000 ≤ c.f1 ∧ c.f1 ≤ 1000000) → rsy a l n = hiy l (n + a) - a
  | [], n, _ => by simp [rsy, hiy]
  | c :: l, n, h => by
    have hc := h c List.mem_cons_self
    rw [rsy, hiy, wr (x := c.f1 - a) ⟨by omega, by omega⟩, rsy_hiy a ha l _ (fun d hd => h d (List.mem_cons_of_mem _ hd))]
    congr 2
    unfold mx
    split <;> split <;> omega
theorem hiy_ge : ∀ (l : List S46) (n : Int), n ≤ hiy l n ∧ ((∀ c ∈ l, c.f1 ≤ 1000000) → n ≤ 1000000 → hiy l n ≤ 1000000)
  | [], n => ⟨Int.le_refl _, fun _ h => h⟩
  | c :: l, n => by
    have h := hiy_ge l (mx n c.f1)
    refine ⟨Int.le_trans ?_ h.1, fun hl hn => h.2 (fun d hd => hl d (List.mem_cons_of_mem _ hd)) ?_⟩
    · unfold mx; split <;> omega
    · have := hl c List.mem_cons_self
      unfold mx; split <;> omega
theorem span0 (a0 a1 b0 b1 : Int) : ∀ (s p : List S46) (n : Int) (acc : Int), n = ((p ++ s).length : Int) → (p ++ s).length < 1000 → Ev (fun k => arch_Span.l0 k acc (p ++ s) n (p.length : Int) a0 a1 b0 b1) (wrap64 (b0 - a0), rsy a1 s acc, 0)
  | [], p, n, acc, hn, _ => Ev.const1 (fun k => by simp only [arch_Span.l0]; rw [if_neg (by rw [hn]; simp)]; rfl)
  | x :: s, p, n, acc, hn, hl => by
    have hl2 : (p ++ x :: s).length = p.length + 1 + s.length := by simp; omega
    have ih := span0 a0 a1 b0 b1 s (p ++ [x]) n (mx acc (wrap64 (x.f1 - a1))) (by rw [← app_snoc]; exact hn) (by rw [← app_snoc]; exact hl)
    rw [← app_snoc, len_snoc] at ih
    refine Ev.step (fun k => ?_) ih
    simp only [arch_Span.l0]
    rw [rdT_app, if_pos (by rw [hn, hl2]; omega), if_pos (by omega), hl2, if_pos (by omega), wr (x := (p.length : Int) + 1) ⟨by omega, by omega⟩]
def spn (x : Q) (s : List Q) : Int := wrap64 ((lastQ x s).b.f0 - x.a.f0)
def ris (x : Q) (s : List Q) : Int := wrap64 (hiy (lnB x s) x.a.f1 - x.a.f1)
theorem lnB_near {x : Q} {s : List Q} (h : Ok x s) : ∀ c ∈ lnB x s, (-1000000 ≤ c.f0 ∧ c.f0 ≤ 1000000) ∧ (-1000000 ≤ c.f1 ∧ c.f1 ≤ 1000000) := by
  intro c hc
  unfold lnB at hc
  rcases List.mem_cons.1 hc with rfl | hc
  · exact (h.nq x List.mem_cons_self).a
  · obtain ⟨q, hq, rfl⟩ := List.mem_map.1 hc
    exact (h.nq q hq).b
theorem ris_eq {x : Q} {s : List Q} (h : Ok x s) : rsy x.a.f1 (lnB x s) 0 = ris x s := by
  have ha := (h.nq x List.mem_cons_self).a.2
  have hh := hiy_ge (lnB x s) x.a.f1
  have h2 := hh.2 (fun c hc => (lnB_near h c hc).2.2) ha.2
  rw [rsy_hiy _ ha _ _ (fun c hc => (lnB_near h c hc).2), Int.zero_add]
  unfold ris
  rw [wr ⟨by omega, by omega⟩]
theorem Span_ev {x : Q} {s : List Q} (h : Ok x s) : Ev (fun k => arch_Span.f k ((x :: s).map ql)) (spn x s, ris x s, 0) := by
  have hl : (x :: s).length < 1000 := by have := h.n64; omega
  refine Ev.bind (f := fun k t => if t = 0 then ((arch_springings.f ((x :: s).map ql)).bind fun bt238 => ((arch_line.f k ((x :: s).map ql) 0 1).bind fun t244 => (arch_Span.l0 k 0 t244 (t244.length : Int) 0 bt238.1 bt238.2.1 bt238.2.2.1 bt238.2.2.2))) else (some (0, 0, t))) (Check_ev _ (by rw [List.length_map]; exact hl)) ?_
  rw [ok_ck h]
  simp only [if_true]
  rw [springings_f x s hl]
  refine Ev.bind (f := fun k t244 => arch_Span.l0 k 0 t244 (t244.length : Int) 0 x.a.f0 x.a.f1 (lastQ x s).b.f0 (lastQ x s).b.f1) (lineB_ev x s hl) ?_
  have := span0 x.a.f0 x.a.f1 (lastQ x s).b.f0 (lastQ x s).b.f1 (lnB x s) [] _ 0 rfl (by rw [List.nil_append, lnB_len]; have := h.n64; simp at this; omega)
  rw [ris_eq h] at this
  exact this
theorem awake300 : gangsawlaw40_awake.f 300 = some true := by decide +kernel
theorem awake_ev : Ev (fun k => gangsawlaw40_awake.f k) true := Ev.of (fun k => gangsawlaw40_awake.mono k) awake300
theorem awk {α : Type} {g : Nat → Bool → Option α} {r : α} (h : Ev (fun k => g k true) r) : Ev (fun k => (gangsawlaw40_awake.f k).bind fun t => g k t) r := Ev.bind (f := fun k t => g k t) awake_ev h
theorem awk1 : Ev (fun k => (gangsawlaw40_awake.f k).bind fun t => (some t : Option Bool)) true := awk (g := fun k t => some t) (Ev.now true)
def few (l : List (List S46)) : Bool := if (l.length : Int) > 70 then false else l.all fun v => decide (v.length ≤ 8)
theorem few0 : ∀ (s p : List (List S46)), (p ++ s).length < 1000 → Ev (fun k => gangsawref40_Few.l0 k (p ++ s) (p.length : Int)) (s.all fun v => decide (v.length ≤ 8))
  | [], p, _ => Ev.const1 (fun k => by simp only [gangsawref40_Few.l0]; rw [if_neg (by simp)]; rfl)
  | x :: s, p, hl => by
    have hl2 : (p ++ x :: s).length = p.length + 1 + s.length := by simp; omega
    have ih := few0 s (p ++ [x]) (by rw [← app_snoc]; exact hl)
    rw [← app_snoc, len_snoc] at ih
    refine Ev.step (f := fun k => if (x.length : Int) > 8 then some false else gangsawref40_Few.l0 k (p ++ x :: s) ((p.length : Int) + 1)) (fun k => ?_) ?_
    · simp only [gangsawref40_Few.l0]
      rw [rdL_app, hl2, if_pos (by omega), if_pos (by omega), wr (x := (p.length : Int) + 1) ⟨by omega, by omega⟩]
    · rw [List.all_cons]
      by_cases c : (x.length : Int) > 8
      · simp only [if_pos c, decide_eq_false (show ¬ x.length ≤ 8 by omega), Bool.false_and]; exact Ev.now _
      · simp only [if_neg c, decide_eq_true (show x.length ≤ 8 by omega), Bool.true_and]; exact ih
theorem Few_ev (l : List (List S46)) : Ev (fun k => gangsawref40_Few.f k l) (few l) := by
  unfold few
  by_cases c : (l.length : Int) > 70
  · rw [if_pos c]; exact Ev.const (fun k => by unfold gangsawref40_Few.f; rw [if_pos c])
  · rw [if_neg c]; exact Ev.congr (f := fun k => gangsawref40_Few.l0 k l 0) (fun k => by unfold gangsawref40_Few.f; rw [if_neg c]) (few0 l [] (by simp; omega))
theorem few_len {l : List (List S46)} (h : few l = true) : l.length ≤ 70 ∧ ∀ v ∈ l, v.length ≤ 8 := by
  unfold few at h
  split at h
  · cases h
  · refine ⟨by omega, fun v hv => ?_⟩
    have := List.all_eq_true.1 h v hv
    exact of_decide_eq_true this

theorem chk_bind {α : Type} {l : List (List S46)} (hl : l.length < 1000) {G : Nat → Option α} {D : Int → α} {r : α} (h0 : ck l = 0 → Ev G r) (h1 : ck l ≠ 0 → D (ck l) = r) : Ev (fun k => (arch_Check.f k l).bind fun t => if t = 0 then G k else some (D t)) r := by
  refine Ev.bind (f := fun k t => if t = 0 then G k else some (D t)) (Check_ev l hl) ?_
  by_cases c : ck l = 0
  · simp only [if_pos c]; exact h0 c
  · simp only [if_neg c, h1 c]; exact Ev.now _
theorem Ok.len {x : Q} {s : List Q} (h : Ok x s) : (x :: s).length < 1000 := by have := h.n64; omega
theorem Ok.len' {x : Q} {s : List Q} (h : Ok x s) : ((x :: s).map ql).length < 1000 := by rw [List.length_map]; exact h.len
def sym (x : Q) (s : List Q) : Bool := eqLL ((x :: s).map ql) ((mirQ x s).map ql)
theorem small_ql (l : List Q) : ∀ v ∈ l.map ql, v.length < 1000000 := by
  intro v hv
  obtain ⟨q, _, rfl⟩ := List.mem_map.1 hv
  show 4 < 1000000
  decide
theorem Symmetric_ev {x : Q} {s : List Q} (h : Ok x s) : Ev (fun k => arch_Symmetric.f k ((x :: s).map ql)) (sym x s, 0) := by
  have hl' := h.len'
  refine chk_bind (G := fun k => (arch_mirror.f k ((x :: s).map ql)).bind fun t177 => ((api_Polygon_40_by_arch_same.f k ((x :: s).map ql) t177).bind fun t180 => (some (t180, 0)))) (D := fun t => (false, t)) h.len' (fun _ => ?_) (fun e => absurd (ok_ck h) e)
  refine Ev.bind (f := fun k t177 => ((api_Polygon_40_by_arch_same.f k ((x :: s).map ql) t177).bind fun t180 => (some (t180, 0)))) (mirror_ev x s h.len) ?_
  exact Ev.bind (f := fun _ t180 => some (t180, 0)) (equalF_ev _ _ (by omega) (small_ql _)) (Ev.now _)
def xp (p q : S46) : Int := p.f0 * q.f1 - q.f0 * p.f1
abbrev NP (p : S46) : Prop := (-1000000 ≤ p.f0 ∧ p.f0 ≤ 1000000) ∧ (-1000000 ≤ p.f1 ∧ p.f1 ≤ 1000000)
theorem mul_le {a b : Int} (ha : -1000000 ≤ a ∧ a ≤ 1000000) (hb : -1000000 ≤ b ∧ b ≤ 1000000) : -1000000000000 ≤ a * b ∧ a * b ≤ 1000000000000 := by
  have h1 : 0 ≤ (1000000 - a) * (1000000 + b) := Int.mul_nonneg (by omega) (by omega)
  have h2 : 0 ≤ (1000000 + a) * (1000000 - b) := Int.mul_nonneg (by omega) (by omega)
  have h3 : 0 ≤ (1000000 - a) * (1000000 - b) := Int.mul_nonneg (by omega) (by omega)
  have h4 : 0 ≤ (1000000 + a) * (1000000 + b) := Int.mul_nonneg (by omega) (by omega)
  simp only [Int.sub_mul, Int.mul_sub, Int.add_mul, Int.mul_add] at h1 h2 h3 h4
  omega
theorem xp_le {p q : S46} (hp : NP p) (hq : NP q) : -2000000000000 ≤ xp p q ∧ xp p q ≤ 2000000000000 := by
  unfold xp
  have h1 := mul_le hp.1 hq.2
  have h2 := mul_le hq.1 hp.2
  omega
theorem xp_step {p q : S46} (hp : NP p) (hq : NP q) {n : Int} (hn : -1000000000000000000 ≤ n ∧ n ≤ 1000000000000000000) : wrap64 (n + wrap64 (wrap64 (p.f0 * q.f1) - wrap64 (q.f0 * p.f1))) = n + xp p q := by
  have h1 := mul_le hp.1 hq.2
  have h2 := mul_le hq.1 hp.2
  unfold xp
  rw [wr (x := p.f0 * q.f1) ⟨by omega, by omega⟩, wr (x := q.f0 * p.f1) ⟨by omega, by omega⟩, wr (x := p.f0 * q.f1 - q.f0 * p.f1) ⟨by omega, by omega⟩, wr ⟨by omega, by omega⟩]
def a4 (q : Q) : Int := xp q.a q.b + xp q.b q.c + xp q.c q.d + xp q.d q.a
def aS : List Q → Int
  | [] => 0
  | q :: s => a4 q + aS s
theorem a4_le {q : Q} (h : NQ q) : -8000000000000 ≤ a4 q ∧ a4 q ≤ 8000000000000 := by
  have h1 := xp_le h.a h.b
  have h2 := xp_le h.b h.c
  have h3 := xp_le h.c h.d
  have h4 := xp_le h.d h.a
  unfold a4
  omega
theorem ar_ql {q : Q} (h : NQ q) {n : Int} (hn : -900000000000000000 ≤ n ∧ n ≤ 900000000000000000) : ar (edge_upto (ql q) 4) n = n + a4 q := by
  have h1 := xp_le h.a h.b
  have h2 := xp_le h.b h.c
  have h3 := xp_le h.c h.d
  rw [edges_ql]
  simp only [ar]
  rw [xp_step h.a h.b ⟨by omega, by omega⟩, xp_step h.b h.c ⟨by omega, by omega⟩, xp_step h.c h.d ⟨by omega, by omega⟩, xp_step h.d h.a ⟨by omega, by omega⟩]
  unfold a4
  omega
theorem ars_ql (s : List Q) : ∀ (n : Int), (∀ q ∈ s, NQ q) → s.length ≤ 100 → -8000000000000000 + 8000000000000 * s.length ≤ n ∧ n ≤ 8000000000000000 - 8000000000000 * s.length → ars (s.map ql) n = n + aS s := by
  induction s with
  | nil => intro n _ _ _; simp [ars, aS]
  | cons q s ih =>
    intro n h hl hn
    have hq := h q List.mem_cons_self
    have hb := a4_le hq
    simp only [List.length_cons] at hl hn
    rw [List.map_cons, ars, show (ql q).length = 4 from rfl, ar_ql hq ⟨by omega, by omega⟩, ih _ (fun r hr => h r (List.mem_cons_of_mem _ hr)) (by omega) ⟨by omega, by omega⟩, aS]
    omega
theorem Area2_ev {x : Q} {s : List Q} (h : Ok x s) : Ev (fun k => arch_Area2.f k ((x :: s).map ql)) (aS (x :: s), 0) := by
  have hl' := h.len'
  refine Ev.bind (f := fun _ t => if t = 0 then (if ((x :: s).map ql).length < 1000 ∧ ((x :: s).map ql).all small = true then some (ars ((x :: s).map ql) 0, 0) else none) else some (0, t)) (Check_ev _ hl') ?_
  rw [ok_ck h]
  have hs : ((x :: s).map ql).all small = true := by
    rw [List.all_map]
    exact List.all_eq_true.2 fun q _ => rfl
  have n6 := h.n64
  simp only [if_true, if_pos (And.intro hl' hs)]
  rw [ars_ql (x :: s) 0 h.nq (by omega) ⟨by omega, by omega⟩, Int.zero_add]
  exact Ev.now _
def lx (q : Q) : Int := mn (mn (mn (mn q.a.f0 q.a.f0) q.b.f0) q.c.f0) q.d.f0
def ly (q : Q) : Int := mn (mn (mn (mn q.a.f1 q.a.f1) q.b.f1) q.c.f1) q.d.f1
def hx (q : Q) : Int := mx (mx (mx (mx q.a.f0 q.a.f0) q.b.f0) q.c.f0) q.d.f0
def tq (q : Q) : Q := ⟨⟨wrap64 (q.a.f0 - lx q), wrap64 (q.a.f1 - ly q)⟩, ⟨wrap64 (q.b.f0 - lx q), wrap64 (q.b.f1 - ly q)⟩, ⟨wrap64 (q.c.f0 - lx q), wrap64 (q.c.f1 - ly q)⟩, ⟨wrap64 (q.d.f0 - lx q), wrap64 (q.d.f1 - ly q)⟩⟩
def wq (q : Q) : Int := wrap64 (hx q - lx q)
theorem template_f (k : Nat) (q : Q) : arch_template.f k (ql q) = some (ql (tq q), wq q) := by
  unfold arch_template.f
  rw [if_pos ⟨show 0 < 4 by decide, show 4 < 1000 by decide⟩]
  rfl
def w0 (t : Q) : Int := mx (mx (mx (mx 0 t.a.f0) t.b.f0) t.c.f0) t.d.f0
theorem mn_le (a b : Int) : mn a b ≤ a ∧ mn a b ≤ b ∧ (mn a b = a ∨ mn a b = b) := by unfold mn; split <;> omega
theorem mx_ge (a b : Int) : a ≤ mx a b ∧ b ≤ mx a b ∧ (mx a b = a ∨ mx a b = b) := by unfold mx; split <;> omega
theorem lx_le (q : Q) : lx q ≤ q.a.f0 ∧ lx q ≤ q.b.f0 ∧ lx q ≤ q.c.f0 ∧ lx q ≤ q.d.f0 ∧ (lx q = q.a.f0 ∨ lx q = q.b.f0 ∨ lx q = q.c.f0 ∨ lx q = q.d.f0) := by
  unfold lx
  have h1 := mn_le q.a.f0 q.a.f0
  have h2 := mn_le (mn q.a.f0 q.a.f0) q.b.f0
  have h3 := mn_le (mn (mn q.a.f0 q.a.f0) q.b.f0) q.c.f0
  have h4 := mn_le (mn (mn (mn q.a.f0 q.a.f0) q.b.f0) q.c.f0) q.d.f0
  omega
theorem ly_le (q : Q) : ly q ≤ q.a.f1 ∧ ly q ≤ q.b.f1 ∧ ly q ≤ q.c.f1 ∧ ly q ≤ q.d.f1 ∧ (ly q = q.a.f1 ∨ ly q = q.b.f1 ∨ ly q = q.c.f1 ∨ ly q = q.d.f1) := by
  unfold ly
  have h1 := mn_le q.a.f1 q.a.f1
  have h2 := mn_le (mn q.a.f1 q.a.f1) q.b.f1
  have h3 := mn_le (mn (mn q.a.f1 q.a.f1) q.b.f1) q.c.f1
  have h4 := mn_le (mn (mn (mn q.a.f1 q.a.f1) q.b.f1) q.c.f1) q.d.f1
  omega
theorem hx_ge (q : Q) : q.a.f0 ≤ hx q ∧ q.b.f0 ≤ hx q ∧ q.c.f0 ≤ hx q ∧ q.d.f0 ≤ hx q ∧ (hx q = q.a.f0 ∨ hx q = q.b.f0 ∨ hx q = q.c.f0 ∨ hx q = q.d.f0) := by
  unfold hx
  have h1 := mx_ge q.a.f0 q.a.f0
  have h2 := mx_ge (mx q.a.f0 q.a.f0) q.b.f0
  have h3 := mx_ge (mx (mx q.a.f0 q.a.f0) q.b.f0) q.c.f0
  have h4 := mx_ge (mx (mx (mx q.a.f0 q.a.f0) q.b.f0) q.c.f0) q.d.f0
  omega
theorem w0_ge (t : Q) : 0 ≤ w0 t ∧ t.a.f0 ≤ w0 t ∧ t.b.f0 ≤ w0 t ∧ t.c.f0 ≤ w0 t ∧ t.d.f0 ≤ w0 t ∧ (w0 t = 0 ∨ w0 t = t.a.f0 ∨ w0 t = t.b.f0 ∨ w0 t = t.c.f0 ∨ w0 t = t.d.f0) := by
  unfold w0
  have h1 := mx_ge 0 t.a.f0
  have h2 := mx_ge (mx 0 t.a.f0) t.b.f0
  have h3 := mx_ge (mx (mx 0 t.a.f0) t.b.f0) t.c.f0
  have h4 := mx_ge (mx (mx (mx 0 t.a.f0) t.b.f0) t.c.f0) t.d.f0
  omega
theorem lx_rng {q : Q} (h : NQ q) : -1000000 ≤ lx q ∧ lx q ≤ 1000000 := by have := lx_le q; have := h.a.1; have := h.b.1; have := h.c.1; have := h.d.1; omega
theorem ly_rng {q : Q} (h : NQ q) : -1000000 ≤ ly q ∧ ly q ≤ 1000000 := by have := ly_le q; have := h.a.2; have := h.b.2; have := h.c.2; have := h.d.2; omega
theorem hx_rng {q : Q} (h : NQ q) : -1000000 ≤ hx q ∧ hx q ≤ 1000000 := by have := hx_ge q; have := h.a.1; have := h.b.1; have := h.c.1; have := h.d.1; omega
def tp (q : Q) : Q := ⟨⟨q.a.f0 - lx q, q.a.f1 - ly q⟩, ⟨q.b.f0 - lx q, q.b.f1 - ly q⟩, ⟨q.c.f0 - lx q, q.c.f1 - ly q⟩, ⟨q.d.f0 - lx q, q.d.f1 - ly q⟩⟩
theorem tq_tp {q : Q} (h : NQ q) : tq q = tp q := by
  have h1 := lx_rng h
  have h2 := ly_rng h
  have ha := h.a
  have hb := h.b
  have hc := h.c
  have hd := h.d
  unfold tq tp
  rw [wr (x := q.a.f0 - lx q) ⟨by omega, by omega⟩, wr (x := q.a.f1 - ly q) ⟨by omega, by omega⟩, wr (x := q.b.f0 - lx q) ⟨by omega, by omega⟩, wr (x := q.b.f1 - ly q) ⟨by omega, by omega⟩, wr (x := q.c.f0 - lx q) ⟨by omega, by omega⟩, wr (x := q.c.f1 - ly q) ⟨by omega, by omega⟩, wr (x := q.d.f0 - lx q) ⟨by omega, by omega⟩, wr (x := q.d.f1 - ly q) ⟨by omega, by omega⟩]
theorem wq_eq {q : Q} (h : NQ q) : wq q = hx q - lx q := by
  have h1 := lx_rng h
  have h2 := hx_rng h
  unfold wq
  exact wr ⟨by omega, by omega⟩
def sim (v w : Q) : Bool := eqLn (ql (tq v)) (ql (tq w)) || eqLn (ql (tq v)) (ql (fq (wq w) (tq w)))
theorem sim_self (v : Q) : sim v v = true := by
  unfold sim
  rw [(eqLn_iff _ _).2 rfl]
  rfl
def kinds (qs : List Q) : List Int := qs.map fun v => fst (sim v) 0 qs
theorem kinds1_ev (v w : Q) : Ev (fun k => arch_Kinds_1.f k (ql w) (ql (tq v))) (sim v w) := by
  refine Ev.congr (f := fun k => (arch_same.f k (ql (tq v)) (ql (tq w))).bind fun t => if t = true then some true else (arch_flip.f k (ql (tq w)) (wq w)).bind fun u => (arch_same.f k (ql (tq v)) u).bind fun t => some t) (fun k => by unfold arch_Kinds_1.f; rw [template_f]; rfl) ?_
  refine Ev.bind (f := fun k t => if t = true then some true else (arch_flip.f k (ql (tq w)) (wq w)).bind fun u => (arch_same.f k (ql (tq v)) u).bind fun t => some t) (same_ev _ _ (show 4 < 1000000 by decide)) ?_
  unfold sim
  cases eqLn (ql (tq v)) (ql (tq w)) with
  | true => simp only [if_true, Bool.true_or]; exact Ev.now _
  | false =>
    simp only [Bool.false_eq_true, if_false, Bool.false_or]
    refine Ev.bind (f := fun k u => (arch_same.f k (ql (tq v)) u).bind fun t => some t) (Ev.late 5 fun k => flip_f (wq w) (tq w) k) ?_
    exact Ev.bind (f := fun k t => some t) (same_ev _ _ (show 4 < 1000000 by decide)) (Ev.now _)
theorem fst_map {α β : Type} (g : α → β) (P : β → Bool) : ∀ (s : List α) (i : Int), fst P i (s.map g) = fst (fun a => P (g a)) i s
  | [], _ => rfl
  | x :: s, i => by rw [List.map_cons, fst, fst, fst_map g P s]
theorem kindix_ev (qs : List Q) (v : Q) (hl : qs.length < 1000) : Ev (fun k => api_Polygon_50_by_arch_Kinds_1.f k (qs.map ql) (ql (tq v))) (fst (sim v) 0 qs) := by
  have := ix_ev (fun k xs n i => api_Polygon_50_by_arch_Kinds_1.l0 k xs n i (ql (tq v))) (fun k w => arch_Kinds_1.f k w (ql (tq v))) rd_L2 rdL_app (fun _ _ _ _ => rfl) (fun w => sim v (toQ w)) (qs.map ql) [] (fun w hw => by
    obtain ⟨q, _, rfl⟩ := List.mem_map.1 hw
    exact kinds1_ev v q) (by simp; omega)
  refine Ev.eq this ?_
  rw [fst_map]
  rfl
theorem kinds0 (qs : List Q) (hq : qs.length < 1000) : ∀ (s p : List Q) (out : List Int), qs = p ++ s → out.length = p.length → Ev (fun k => arch_Kinds.l0 k (qs.map ql) out (qs.map ql) (qs.length : Int) (p.length : Int)) (out ++ s.map (fun v => fst (sim v) 0 qs), 0)
  | [], p, out, h, ho => Ev.const1 (fun k => by simp only [arch_Kinds.l0]; rw [if_neg (by rw [h]; simp)]; simp)
  | x :: s, p, out, h, ho => by
    have hl2 : qs.length = p.length + 1 + s.length := by rw [h]; simp; omega
    have ih := kinds0 qs hq s (p ++ [x]) (out ++ [fst (sim x) 0 qs]) (by rw [← app_snoc]; exact h) (by simp [ho])
    rw [len_snoc] at ih
    refine Ev.step (f := fun k => (api_Polygon_50_by_arch_Kinds_1.f k (qs.map ql) (ql (tq x))).bind fun t => arch_Kinds.l0 k (qs.map ql) (out ++ [t]) (qs.map ql) (qs.length : Int) ((p.length : Int) + 1)) (fun k => ?_) ?_
    · have ex : rd_L2 (qs.map ql) (p.length : Int) = ql x := by rw [h]; exact rdQ_app p s x
      simp only [arch_Kinds.l0]
      rw [ex, template_f, lenQ, hl2, if_pos (by omega), if_pos (by omega), if_pos (by omega), wrn _ (by omega)]
      simp only [if_pos (show out.length < 17592186044416 by omega)]
      rfl
    · refine Ev.bind (f := fun k t => arch_Kinds.l0 k (qs.map ql) (out ++ [t]) (qs.map ql) (qs.length : Int) ((p.length : Int) + 1)) (kindix_ev qs x hq) ?_
      refine Ev.eq ih ?_
      simp
theorem Kinds_ev {x : Q} {s : List Q} (h : Ok x s) : Ev (fun k => arch_Kinds.f k ((x :: s).map ql)) (kinds (x :: s), 0) := by
  refine chk_bind (G := fun k => arch_Kinds.l0 k ((x :: s).map ql) [] ((x :: s).map ql) (((x :: s).map ql).length : Int) 0) (D := fun t => ([], t)) h.len' (fun _ => ?_) (fun e => absurd (ok_ck h) e)
  rw [lenQ]
  exact kinds0 (x :: s) h.len (x :: s) [] [] rfl rfl
def farQ (qs : List Q) : Bool := qs.any fun q => (ql q).any farB
theorem anyfarQ_ev (qs : List Q) (hl : qs.length < 1000) : Ev (fun k => api_Polygon_53_by_arch_Mirror_1.f k (qs.map ql)) (farQ qs) := by
  have := ix_any api_Polygon_50_by_arch_Mirror_1.l0 (fun k v => arch_Mirror_1.f k v) rd_L2 rdL_app (fun _ _ _ _ => rfl) (fun v => v.any farB) (qs.map ql) (fun v hv => by
    obtain ⟨q, _, rfl⟩ := List.mem_map.1 hv
    exact Ev.bind (f := fun _ t => some t) (anyfar_ev (ql q) (show 4 < 1000000 by decide)) (Ev.now _)) (by rw [List.length_map]; omega)
  refine Ev.eq this ?_
  rw [List.any_map]
  rfl
theorem Mirror_ev {x : Q} {s : List Q} (h : Ok x s) : Ev (fun k => arch_Mirror.f k ((x :: s).map ql)) (if farQ (mirQ x s) = true then ([], 6) else ((mirQ x s).map ql, 0)) := by
  refine chk_bind (G := fun k => (arch_mirror.f k ((x :: s).map ql)).bind fun t469 => ((api_Polygon_53_by_arch_Mirror_1.f k t469).bind fun t472 => (if t472 = true then (some (([] : List (List (S46))), 6)) else (some (t469, 0))))) (D := fun t => ([], t)) h.len' (fun _ => ?_) (fun e => absurd (ok_ck h) e)
  refine Ev.bind (f := fun k t469 => ((api_Polygon_53_by_arch_Mirror_1.f k t469).bind fun t472 => (if t472 = true then (some (([] : List (List (S46))), 6)) else (some (t469, 0))))) (mirror_ev x s h.len) ?_
  refine Ev.bind (f := fun k t472 => (if t472 = true then (some (([] : List (List (S46))), 6)) else (some ((mirQ x s).map ql, 0)))) (anyfarQ_ev _ (by unfold mirQ; rw [List.length_reverse, List.length_map]; exact h.len)) ?_
  cases farQ (mirQ x s) <;> exact Ev.now _
theorem Mirror_err {l : List (List S46)} (hl : l.length < 1000) (h : ck l ≠ 0) : Ev (fun k => arch_Mirror.f k l) ([], ck l) := chk_bind (D := fun t => ([], t)) hl (fun e => absurd e h) (fun _ => rfl)
theorem rd_app (p s : List Int) (e : Int) : rd (p ++ e :: s) (p.length : Int) = e := by
  simp [rd, List.getD_eq_getElem?_getD]
abbrev N2 (p : S46) : Prop := (-3000000 ≤ p.f0 ∧ p.f0 ≤ 3000000) ∧ (-3000000 ≤ p.f1 ∧ p.f1 ≤ 3000000)
theorem tp_rng {q : Q} (h : NQ q) : N2 (tp q).a ∧ N2 (tp q).b ∧ N2 (tp q).c ∧ N2 (tp q).d := by
  have h1 := lx_rng h
  have h2 := ly_rng h
  have ha := h.a
  have hb := h.b
  have hc := h.c
  have hd := h.d
  refine ⟨⟨?_, ?_⟩, ⟨?_, ?_⟩, ⟨?_, ?_⟩, ⟨?_, ?_⟩⟩ <;> simp only [tp] <;> omega
theorem lx_tp (q : Q) : lx (tp q) = 0 := by
  have h1 : lx (tp q) ≤ q.a.f0 - lx q ∧ lx (tp q) ≤ q.b.f0 - lx q ∧ lx (tp q) ≤ q.c.f0 - lx q ∧ lx (tp q) ≤ q.d.f0 - lx q ∧ (lx (tp q) = q.a.f0 - lx q ∨ lx (tp q) = q.b.f0 - lx q ∨ lx (tp q) = q.c.f0 - lx q ∨ lx (tp q) = q.d.f0 - lx q) := lx_le (tp q)
  have h2 := lx_le q
  omega
def mp (S : Int) (p : S46) : S46 := ⟨S - p.f0, p.f1⟩
def fz (S : Int) (q : Q) : Q := ⟨mp S q.b, mp S q.a, mp S q.d, mp S q.c⟩
abbrev SR (S : Int) : Prop := -2000000 ≤ S ∧ S ≤ 2000000
theorem fq_fz {S : Int} {q : Q} (hS : SR S) (h : NQ q) : fq S q = fz S q := by
  have ha := h.a
  have hb := h.b
  have hc := h.c
  have hd := h.d
  unfold fq fz mp
  rw [wr (x := S - q.b.f0) ⟨by omega, by omega⟩, wr (x := S - q.a.f0) ⟨by omega, by omega⟩, wr (x := S - q.d.f0) ⟨by omega, by omega⟩, wr (x := S - q.c.f0) ⟨by omega, by omega⟩]
theorem fz_fz (S : Int) (q : Q) : fz S (fz S q) = q := by
  have e : ∀ p : S46, mp S (mp S p) = p := fun p => S46.ext' (show S - (S - p.f0) = p.f0 by omega) rfl
  unfold fz
  simp only [e]
def cr (p q r : S46) : Int := (q.f0 - p.f0) * (r.f1 - p.f1) - (q.f1 - p.f1) * (r.f0 - p.f0)
theorem crs_cr {p q r : S46} (hp : NP p) (hq : NP q) (hr : NP r) : crs p q r = cr p q r := by
  have h1 : -9000000000000 ≤ (q.f0 - p.f0) * (r.f1 - p.f1) ∧ (q.f0 - p.f0) * (r.f1 - p.f1) ≤ 9000000000000 := by
    have a1 : 0 ≤ (3000000 - (q.f0 - p.f0)) * (3000000 + (r.f1 - p.f1)) := Int.mul_nonneg (by omega) (by omega)
    have a2 : 0 ≤ (3000000 + (q.f0 - p.f0)) * (3000000 - (r.f1 - p.f1)) := Int.mul_nonneg (by omega) (by omega)
    have a3 : 0 ≤ (3000000 - (q.f0 - p.f0)) * (3000000 - (r.f1 - p.f1)) := Int.mul_nonneg (by omega) (by omega)
    have a4 : 0 ≤ (3000000 + (q.f0 - p.f0)) * (3000000 + (r.f1 - p.f1)) := Int.mul_nonneg (by omega) (by omega)
    generalize q.f0 - p.f0 = u at *
    generalize r.f1 - p.f1 = v at *
    simp only [Int.sub_mul, Int.mul_sub, Int.add_mul, Int.mul_add] at a1 a2 a3 a4
    omega
  have h2 : -9000000000000 ≤ (q.f1 - p.f1) * (r.f0 - p.f0) ∧ (q.f1 - p.f1) * (r.f0 - p.f0) ≤ 9000000000000 := by
    have a1 : 0 ≤ (3000000 - (q.f1 - p.f1)) * (3000000 + (r.f0 - p.f0)) := Int.mul_nonneg (by omega) (by omega)
    have a2 : 0 ≤ (3000000 + (q.f1 - p.f1)) * (3000000 - (r.f0 - p.f0)) := Int.mul_nonneg (by omega) (by omega)
    have a3 : 0 ≤ (3000000 - (q.f1 - p.f1)) * (3000000 - (r.f0 - p.f0)) := Int.mul_nonneg (by omega) (by omega)
    have a4 : 0 ≤ (3000000 + (q.f1 - p.f1)) * (3000000 + (r.f0 - p.f0)) := Int.mul_nonneg (by omega) (by omega)
    generalize q.f1 - p.f1 = u at *
    generalize r.f0 - p.f0 = v at *
    simp only [Int.sub_mul, Int.mul_sub, Int.add_mul, Int.mul_add] at a1 a2 a3 a4
    omega
  unfold crs cr
  rw [wr (x := q.f0 - p.f0) ⟨by omega, by omega⟩, wr (x := r.f1 - p.f1) ⟨by omega, by omega⟩, wr (x := q.f1 - p.f1) ⟨by omega, by omega⟩, wr (x := r.f0 - p.f0) ⟨by omega, by omega⟩]
  rw [wr (x := (q.f0 - p.f0) * (r.f1 - p.f1)) ⟨by omega, by omega⟩, wr (x := (q.f1 - p.f1) * (r.f0 - p.f0)) ⟨by omega, by omega⟩, wr ⟨by omega, by omega⟩]
theorem cr_xp (p q r : S46) : cr p q r = xp p q + xp q r + xp r p := by
  unfold cr xp
  simp only [Int.sub_mul, Int.mul_sub]
  have e1 : q.f1 * r.f0 = r.f0 * q.f1 := Int.mul_comm _ _
  have e2 : q.f1 * p.f0 = p.f0 * q.f1 := Int.mul_comm _ _
  have e3 : p.f1 * r.f0 = r.f0 * p.f1 := Int.mul_comm _ _
  have e4 : p.f1 * p.f0 = p.f0 * p.f1 := Int.mul_comm _ _
  omega
theorem xp_mp (S : Int) (p q : S46) : xp (mp S p) (mp S q) = S * q.f1 - S * p.f1 - xp p q := by
  unfold xp mp
  simp only [Int.sub_mul]
  omega
theorem xp_ng (p q : S46) : xp p q = - xp q p := by unfold xp; omega
theorem cr_mp (S : Int) (p q r : S46) : cr (mp S p) (mp S q) (mp S r) = cr q p r := by
  rw [cr_xp, cr_xp, xp_mp, xp_mp, xp_mp]
  have h1 := xp_ng p q
  have h2 := xp_ng q r
  have h3 := xp_ng r p
  omega
theorem crs_mp {S : Int} {p q r : S46} (hp : NP p) (hq : NP q) (hr : NP r) (hp' : NP (mp S p)) (hq' : NP (mp S q)) (hr' : NP (mp S r)) : crs (mp S p) (mp S q) (mp S r) = crs q p r := by
  rw [crs_cr hp' hq' hr', crs_cr hq hp hr, cr_mp]
theorem crs_rot {p q r : S46} (hp : NP p) (hq : NP q) (hr : NP r) : crs p q r = crs q r p := by
  rw [crs_cr hp hq hr, crs_cr hq hr hp, cr_xp, cr_xp]
  omega
theorem cv_fz {S : Int} {q : Q} (h : NQ q) (h' : NQ (fz S q)) : cv (fz S q) = cv q := by
  have a := h'.b
  have b := h'.a
  have c := h'.d
  have d := h'.c
  simp only [fz] at a b c d
  show (!(decide (crs (mp S q.b) (mp S q.a) (mp S q.d) ≤ 0) || decide (crs (mp S q.a) (mp S q.d) (mp S q.c) ≤ 0) || decide (crs (mp S q.d) (mp S q.c) (mp S q.b) ≤ 0) || decide (crs (mp S q.c) (mp S q.b) (mp S q.a) ≤ 0))) = cv q
  unfold cv
  rw [crs_mp h.b h.a h.d b a d, crs_mp h.a h.d h.c a d c, crs_mp h.d h.c h.b d c b, crs_mp h.c h.b h.a c b a]
  rw [← crs_rot h.d h.a h.b, ← crs_rot h.c h.d h.a, ← crs_rot h.b h.c h.d, ← crs_rot h.a h.b h.c]
  cases decide (crs q.d q.a q.b ≤ 0) <;> cases decide (crs q.c q.d q.a ≤ 0) <;> cases decide (crs q.b q.c q.d ≤ 0) <;> cases decide (crs q.a q.b q.c ≤ 0) <;> rfl
theorem lf_fz {S : Int} {p q : S46} {y : Q} (hp : NP p) (hq : NP q) (hp' : NP (mp S p)) (hq' : NP (mp S q)) (h : NQ y) (h' : NQ (fz S y)) : lf (mp S p) (mp S q) (fz S y) = lf q p y := by
  have a := h'.b
  have b := h'.a
  have c := h'.d
  have d := h'.c
  simp only [fz] at a b c d
  show (decide (crs (mp S p) (mp S q) (mp S y.b) > 0) || decide (crs (mp S p) (mp S q) (mp S y.a) > 0) || decide (crs (mp S p) (mp S q) (mp S y.d) > 0) || decide (crs (mp S p) (mp S q) (mp S y.c) > 0)) = lf q p y
  unfold lf
  rw [crs_mp hp hq h.a hp' hq' a, crs_mp hp hq h.b hp' hq' b, crs_mp hp hq h.c hp' hq' c, crs_mp hp hq h.d hp' hq' d]
  cases decide (crs q p y.a > 0) <;> cases decide (crs q p y.b > 0) <;> cases decide (crs q p y.c > 0) <;> cases decide (crs q p y.d > 0) <;> rfl
theorem sp_fz {S : Int} {x y : Q} (hx : NQ x) (hy : NQ y) (hx' : NQ (fz S x)) (hy' : NQ (fz S y)) : sp (fz S x) (fz S y) = sp x y := by
  have a := hx'.b
  have b := hx'.a
  have c := hx'.d
  have d := hx'.c
  simp only [fz] at a b c d
  have e1 := lf_fz hx.b hx.a b a hy hy'
  have e2 := lf_fz hx.a hx.d a d hy hy'
  have e3 := lf_fz hx.d hx.c d c hy hy'
  have e4 := lf_fz hx.c hx.b c b hy hy'
  show (!lf (mp S x.b) (mp S x.a) (fz S y) || !lf (mp S x.a) (mp S x.d) (fz S y) || !lf (mp S x.d) (mp S x.c) (fz S y) || !lf (mp S x.c) (mp S x.b) (fz S y)) = sp x y
  rw [e1, e2, e3, e4]
  unfold sp
  cases lf x.a x.b y <;> cases lf x.d x.a y <;> cases lf x.c x.d y <;> cases lf x.b x.c y <;> rfl
def jo (p q : Q) : Bool := S46.eqb p.b q.a && S46.eqb p.c q.d
theorem jt_snoc : ∀ (s : List Q) (x r : Q), jt x (s ++ [r]) = (jt x s && jo (lastQ x s) r)
  | [], x, r => by simp [jt, jo, lastQ]
  | y :: s, x, r => by
    rw [List.cons_append, jt, jt, jt_snoc s y r, lastQ]
    simp only [Bool.and_assoc]
theorem jo_fz (S : Int) (x y : Q) (h : jo x y = true) : jo (fz S y) (fz S x) = true := by
  unfold jo at h ⊢
  simp only [Bool.and_eq_true] at h ⊢
  have e1 := (S46.eqb_iff _ _).1 h.1
  have e2 := (S46.eqb_iff _ _).1 h.2
  refine ⟨(S46.eqb_iff _ _).2 ?_, (S46.eqb_iff _ _).2 ?_⟩
  · show mp S y.a = mp S x.b
    rw [e1]
  · show mp S y.d = mp S x.c
    rw [e2]
theorem last_snoc : ∀ (s : List Q) (x r : Q), lastQ x (s ++ [r]) = r
  | [], _, _ => rfl
  | y :: s, _, r => last_snoc s y r
theorem mz (S : Int) : ∀ (s : List Q) (x : Q), jt x s = true → ∃ t, ((x :: s).map (fz S)).reverse = fz S (lastQ x s) :: t ∧ lastQ (fz S (lastQ x s)) t = fz S x ∧ jt (fz S (lastQ x s)) t = true
  | [], x, _ => ⟨[], rfl, rfl, rfl⟩
  | y :: s, x, h => by
    rw [jt] at h
    simp only [Bool.and_eq_true] at h
    obtain ⟨t, h1, h2, h3⟩ := mz S s y h.2
    refine ⟨t ++ [fz S x], ?_, last_snoc _ _ _, ?_⟩
    · rw [List.map_cons, List.reverse_cons, h1]
      rfl
    · show jt (fz S (lastQ y s)) (t ++ [fz S x]) = true
      rw [jt_snoc, h3, h2, jo_fz S x y (by unfold jo; rw [h.1.1, h.1.2]; rfl)]
      rfl
def Rl (x y : Q) : Bool := sp x y || sp y x
theorem ovs_iff : ∀ (s p : List Q), ovs p s = true ↔ (∀ x ∈ s, ∀ y ∈ p, Rl x y = true) ∧ s.Pairwise (fun a b => Rl b a = true)
  | [], p => by simp [ovs]
  | x :: s, p => by
    rw [ovs, Bool.and_eq_true, ovs_iff s (p ++ [x]), List.pairwise_cons]
    unfold clr
    rw [List.all_eq_true]
    constructor
    · rintro ⟨h1, h2, h3⟩
      refine ⟨fun z hz y hy => ?_, fun z hz => h2 z hz x (by simp), h3⟩
      rcases List.mem_cons.1 hz with rfl | hz
      · exact h1 y hy
      · exact h2 z hz y (by simp [hy])
    · rintro ⟨h1, h2, h3⟩
      refine ⟨fun y hy => h1 x List.mem_cons_self y hy, fun z hz y hy => ?_, h3⟩
      rcases List.mem_append.1 hy with hy | hy
      · exact h1 z (List.mem_cons_of_mem _ hz) y hy
      · rw [List.mem_singleton] at hy
        subst hy
        exact h2 z hz
theorem ovs_fz {S : Int} {L : List Q} (hN : ∀ q ∈ L, NQ q) (hN' : ∀ q ∈ L, NQ (fz S q)) (h : ovs [] L = true) : ovs [] (L.map (fz S)).reverse = true := by
  rw [ovs_iff] at h ⊢
  refine ⟨fun _ _ y hy => absurd hy (List.not_mem_nil), ?_⟩
  rw [List.pairwise_reverse, List.pairwise_map]
  refine List.Pairwise.imp_of_mem (fun {a b} ha hb hab => ?_) h.2
  unfold Rl at hab ⊢
  rw [sp_fz (hN a ha) (hN b hb) (hN' a ha) (hN' b hb), sp_fz (hN b hb) (hN a ha) (hN' b hb) (hN' a ha), Bool.or_comm]
  exact hab
theorem nq_near {q : Q} (h : (ql q).any farB = false) : NQ q := by
  have : ∀ p ∈ ql q, farB p = false := fun p hp => Bool.eq_false_iff.2 (by rw [List.any_eq_false] at h; exact h p hp)
  exact ⟨near_of (this _ (by simp [ql])), near_of (this _ (by simp [ql])), near_of (this _ (by simp [ql])), near_of (this _ (by simp [ql]))⟩
structure MI (x : Q) (s : List Q) (y : Q) (t : List Q) (S : Int) : Prop where
  sum : S = x.a.f0 + (lastQ x s).b.f0
  rng : SR S
  eq : mirQ x s = y :: t
  map : y :: t = ((x :: s).map (fz S)).reverse
  hd : y = fz S (lastQ x s)
  tl : lastQ y t = fz S x
  ok : Ok y t
  far : farQ (mirQ x s) = false
theorem mi_of {x : Q} {s : List Q} (ok : Ok x s) (hfar : farQ (mirQ x s) = false) : ∃ y t S, MI x s y t S := by
  have hz := ok.nq _ (last_mem s x)
  have hx := ok.nq x List.mem_cons_self
  have hxa := hx.a
  have hzb := hz.b
  have hsum : sumX x s = x.a.f0 + (lastQ x s).b.f0 := wr ⟨by omega, by omega⟩
  obtain ⟨S, hS⟩ : ∃ S, S = x.a.f0 + (lastQ x s).b.f0 := ⟨_, rfl⟩
  have rng : SR S := by unfold SR; omega
  obtain ⟨t, h1, h2, h3⟩ := mz S s x ok.join
  have hm : mirQ x s = ((x :: s).map (fz S)).reverse := by
    unfold mirQ
    rw [hsum, ← hS]
    congr 1
    exact List.map_congr_left fun q hq => fq_fz rng (ok.nq q hq)
  have hN' : ∀ q ∈ x :: s, NQ (fz S q) := fun q hq => by
    refine nq_near ?_
    unfold farQ at hfar
    rw [List.any_eq_false] at hfar
    have := hfar (fz S q) (by rw [hm]; exact List.mem_reverse.2 (List.mem_map.2 ⟨q, hq, rfl⟩))
    exact Bool.eq_false_iff.2 this
  have hmem : ∀ q ∈ fz S (lastQ x s) :: t, ∃ r ∈ x :: s, q = fz S r := fun q hq => by
    rw [← h1] at hq
    obtain ⟨r, hr, e⟩ := List.mem_map.1 (List.mem_reverse.1 hq)
    exact ⟨r, hr, e.symm⟩
  have he := ok.ends
  unfold ends at he
  simp only [Bool.and_eq_true, decide_eq_true_eq, Bool.not_eq_true', decide_eq_false_iff_not] at he
  refine ⟨fz S (lastQ x s), t, S, hS, rng, hm.trans h1, h1.symm, rfl, h2, ⟨?_, ?_, ?_, h3, ?_, ?_⟩, hfar⟩
  · rw [← h1, List.length_reverse, List.length_map]; exact ok.n64
  · intro q hq p hp
    unfold farQ at hfar
    rw [List.any_eq_false] at hfar
    have := hfar q (by rw [hm, h1]; exact hq)
    rw [Bool.not_eq_true, List.any_eq_false] at this
    exact Bool.eq_false_iff.2 (this p hp)
  · intro q hq
    obtain ⟨r, hr, rfl⟩ := hmem q hq
    rw [cv_fz (ok.nq r hr) (hN' r hr)]
    exact ok.conv r hr
  · unfold ends
    rw [h2]
    simp only [Bool.and_eq_true, decide_eq_true_eq, Bool.not_eq_true', decide_eq_false_iff_not]
    exact ⟨he.1.symm, show ¬ (S - (lastQ x s).b.f0 ≥ S - x.a.f0) by omega⟩
  · rw [← h1]
    exact ovs_fz ok.nq hN' ok.over
theorem mi_back {x : Q} {s : List Q} {y : Q} {t : List Q} {S : Int} (ok : Ok x s) (m : MI x s y t S) : mirQ y t = x :: s := by
  have hz := ok.nq _ (last_mem s x)
  have hx := ok.nq x List.mem_cons_self
  have hxa := hx.a
  have hzb := hz.b
  have hs := m.sum
  have e : sumX y t = S := by
    unfold sumX
    rw [m.tl, m.hd]
    show wrap64 ((S - (lastQ x s).b.f0) + (S - x.a.f0)) = S
    rw [wr ⟨by omega, by omega⟩]
    omega
  unfold mirQ
  rw [e, m.map, List.map_reverse, List.reverse_reverse, List.map_map]
  conv => rhs; rw [← List.map_id (x :: s)]
  refine List.map_congr_left fun q hq => ?_
  have hq' : NQ (fz S q) := m.ok.nq _ (by rw [m.map]; exact List.mem_reverse.2 (List.mem_map.2 ⟨q, hq, rfl⟩))
  show fq S (fz S q) = q
  rw [fq_fz m.rng hq', fz_fz]
theorem farQ_ok {x : Q} {s : List Q} (ok : Ok x s) : farQ (x :: s) = false := by
  unfold farQ
  rw [List.any_eq_false]
  intro q hq
  rw [Bool.not_eq_true, List.any_eq_false]
  intro p hp
  rw [ok.near q hq p hp]
  decide
theorem mi_spn {x : Q} {s : List Q} {y : Q} {t : List Q} {S : Int} (m : MI x s y t S) : spn y t = spn x s := by
  have hs := m.sum
  unfold spn
  rw [m.tl, m.hd]
  show wrap64 ((S - x.a.f0) - (S - (lastQ x s).b.f0)) = _
  congr 1
  omega
theorem hiy_le : ∀ (l : List S46) (n M : Int), hiy l n ≤ M ↔ n ≤ M ∧ ∀ c ∈ l, c.f1 ≤ M
  | [], n, M => by simp [hiy]
  | c :: l, n, M => by
    rw [hiy, hiy_le l, List.forall_mem_cons]
    unfold mx
    constructor
    · rintro ⟨h1, h2⟩
      split at h1 <;> exact ⟨by omega, by omega, h2⟩
    · rintro ⟨h1, h2, h3⟩
      refine ⟨?_, h3⟩
      split <;> omega
theorem nxt : ∀ (s : List Q) (x : Q), jt x s = true → ∀ q ∈ x :: s, q = lastQ x s ∨ ∃ r ∈ x :: s, q.b = r.a
  | [], x, _, q, hq => by simp at hq; exact .inl hq
  | y :: s, x, h, q, hq => by
    rw [jt] at h
    simp only [Bool.and_eq_true] at h
    rcases List.mem_cons.1 hq with rfl | hq
    · exact .inr ⟨y, by simp, (S46.eqb_iff _ _).1 h.1.1⟩
    · rcases nxt s y h.2 q hq with h | ⟨r, hr, e⟩
      · exact .inl h
      · exact .inr ⟨r, List.mem_cons_of_mem _ hr, e⟩
theorem prv : ∀ (s : List Q) (x : Q), jt x s = true → ∀ q ∈ x :: s, q = x ∨ ∃ r ∈ x :: s, r.b = q.a
  | [], x, _, q, hq => by simp at hq; exact .inl hq
  | y :: s, x, h, q, hq => by
    rw [jt] at h
    simp only [Bool.and_eq_true] at h
    rcases List.mem_cons.1 hq with rfl | hq
    · exact .inl rfl
    · rcases prv s y h.2 q hq with h' | ⟨r, hr, e⟩
      · exact .inr ⟨x, by simp, by rw [h']; exact (S46.eqb_iff _ _).1 h.1.1⟩
      · exact .inr ⟨r, List.mem_cons_of_mem _ hr, e⟩
theorem mi_ris {x : Q} {s : List Q} {y : Q} {t : List Q} {S : Int} (ok : Ok x s) (m : MI x s y t S) : ris y t = ris x s := by
  have he := ok.ends
  unfold ends at he
  simp only [Bool.and_eq_true, decide_eq_true_eq] at he
  have e0 : y.a.f1 = x.a.f1 := by rw [m.hd]; exact he.1.symm
  have eqv : ∀ M : Int, hiy (lnB y t) x.a.f1 ≤ M ↔ hiy (lnB x s) x.a.f1 ≤ M := fun M => by
    rw [hiy_le, hiy_le]
    unfold lnB
    rw [List.forall_mem_cons, List.forall_mem_cons, m.map, List.forall_mem_map, List.forall_mem_map, e0]
    have hz := last_mem s x
    constructor
    · rintro ⟨h1, _, h2⟩
      have h3 : ∀ q ∈ x :: s, q.a.f1 ≤ M := fun q hq => h2 (fz S q) (List.mem_reverse.2 (List.mem_map.2 ⟨q, hq, rfl⟩))
      refine ⟨h1, h1, fun q hq => ?_⟩
      rcases nxt s x ok.join q hq with rfl | ⟨r, hr, e⟩
      · rw [← he.1]; exact h1
      · rw [e]; exact h3 r hr
    · rintro ⟨h1, _, h2⟩
      refine ⟨h1, h1, fun q hq => ?_⟩
      obtain ⟨r, hr, rfl⟩ := List.mem_map.1 (List.mem_reverse.1 hq)
      show r.a.f1 ≤ M
      rcases prv s x ok.join r hr with rfl | ⟨u, hu, e⟩
      · exact h1
      · rw [← e]; exact h2 u hu
  have e1 : hiy (lnB y t) x.a.f1 = hiy (lnB x s) x.a.f1 := Int.le_antisymm ((eqv _).2 (Int.le_refl _)) ((eqv _).1 (Int.le_refl _))
  unfold ris
  rw [e0, e1]
theorem a4_fz (S : Int) (q : Q) : a4 (fz S q) = a4 q := by
  unfold a4 fz
  simp only [xp_mp]
  have h1 := xp_ng q.b q.a
  have h2 := xp_ng q.a q.d
  have h3 := xp_ng q.d q.c
  have h4 := xp_ng q.c q.b
  omega
theorem aS_app : ∀ (u v : List Q), aS (u ++ v) = aS u + aS v
  | [], v => by simp [aS]
  | q :: u, v => by rw [List.cons_append, aS, aS, aS_app u v]; omega
theorem aS_fz (S : Int) : ∀ (l : List Q), aS (l.map (fz S)).reverse = aS l
  | [] => rfl
  | q :: l => by
    rw [List.map_cons, List.reverse_cons, aS_app, aS_fz S l, aS, aS, aS, a4_fz]
    omega

theorem ql_inj {p q : Q} (h : ql p = ql q) : p = q := by
  cases p; cases q
  simp only [ql, List.cons.injEq, and_true] at h
  obtain ⟨rfl, rfl, rfl, rfl⟩ := h
  rfl
theorem map_ql_inj : ∀ {u v : List Q}, u.map ql = v.map ql → u = v
  | [], [], _ => rfl
  | [], _ :: _, h => by cases h
  | _ :: _, [], h => by cases h
  | p :: u, q :: v, h => by
    rw [List.map_cons, List.map_cons] at h
    obtain ⟨h1, h2⟩ := List.cons.inj h
    rw [ql_inj h1, map_ql_inj h2]
def gm (t : Q) : Q := fz (w0 t) t
theorem w0_tp {q : Q} : w0 (tp q) = hx q - lx q := by
  have h1 : 0 ≤ w0 (tp q) ∧ q.a.f0 - lx q ≤ w0 (tp q) ∧ q.b.f0 - lx q ≤ w0 (tp q) ∧ q.c.f0 - lx q ≤ w0 (tp q) ∧ q.d.f0 - lx q ≤ w0 (tp q) ∧ (w0 (tp q) = 0 ∨ w0 (tp q) = q.a.f0 - lx q ∨ w0 (tp q) = q.b.f0 - lx q ∨ w0 (tp q) = q.c.f0 - lx q ∨ w0 (tp q) = q.d.f0 - lx q) := w0_ge (tp q)
  have h2 := hx_ge q
  have h3 := lx_le q
  omega
theorem lx_fz (S : Int) (q : Q) : lx (fz S q) = S - hx q := by
  have h1 : lx (fz S q) ≤ S - q.b.f0 ∧ lx (fz S q) ≤ S - q.a.f0 ∧ lx (fz S q) ≤ S - q.d.f0 ∧ lx (fz S q) ≤ S - q.c.f0 ∧ (lx (fz S q) = S - q.b.f0 ∨ lx (fz S q) = S - q.a.f0 ∨ lx (fz S q) = S - q.d.f0 ∨ lx (fz S q) = S - q.c.f0) := lx_le (fz S q)
  have h2 := hx_ge q
  omega
theorem ly_fz (S : Int) (q : Q) : ly (fz S q) = ly q := by
  have h1 : ly (fz S q) ≤ q.b.f1 ∧ ly (fz S q) ≤ q.a.f1 ∧ ly (fz S q) ≤ q.d.f1 ∧ ly (fz S q) ≤ q.c.f1 ∧ (ly (fz S q) = q.b.f1 ∨ ly (fz S q) = q.a.f1 ∨ ly (fz S q) = q.d.f1 ∨ ly (fz S q) = q.c.f1) := ly_le (fz S q)
  have h2 := ly_le q
  omega
theorem tp_fz (S : Int) (q : Q) : tp (fz S q) = gm (tp q) := by
  unfold gm
  rw [w0_tp]
  have e : ∀ p : S46, (⟨(mp S p).f0 - lx (fz S q), (mp S p).f1 - ly (fz S q)⟩ : S46) = mp (hx q - lx q) ⟨p.f0 - lx q, p.f1 - ly q⟩ := fun p => by
    rw [lx_fz, ly_fz]
    exact S46.ext' (show S - p.f0 - (S - hx q) = hx q - lx q - (p.f0 - lx q) by omega) rfl
  have f : tp (fz S q) = ⟨⟨(mp S q.b).f0 - lx (fz S q), (mp S q.b).f1 - ly (fz S q)⟩, ⟨(mp S q.a).f0 - lx (fz S q), (mp S q.a).f1 - ly (fz S q)⟩, ⟨(mp S q.d).f0 - lx (fz S q), (mp S q.d).f1 - ly (fz S q)⟩, ⟨(mp S q.c).f0 - lx (fz S q), (mp S q.c).f1 - ly (fz S q)⟩⟩ := rfl
  rw [f, e q.b, e q.a, e q.d, e q.c]
  rfl
theorem gm_gm (q : Q) : gm (gm (tp q)) = tp q := by
  rw [← tp_fz 0 q, ← tp_fz 0 (fz 0 q), fz_fz]
def smB (v w : Q) : Prop := tp v = tp w ∨ tp v = gm (tp w)
theorem sim_iff {v w : Q} (hv : NQ v) (hw : NQ w) : sim v w = true ↔ smB v w := by
  have hS : wq w = w0 (tp w) := by rw [wq_eq hw, w0_tp]
  have hr : SR (wq w) := by have := lx_rng hw; have := hx_rng hw; rw [wq_eq hw]; unfold SR; omega
  have hf : fq (wq w) (tq w) = gm (tp w) := by
    unfold gm
    rw [hS, tq_tp hw]
    rw [hS] at hr
    have h1 := tp_rng hw
    have h2 := w0_ge (tp w)
    have r := hr
    unfold SR at r
    have z := lx_tp w
    have z1 := lx_le (tp w)
    rw [z] at z1
    obtain ⟨⟨a, _⟩, ⟨b, _⟩, ⟨c, _⟩, ⟨d, _⟩⟩ := h1
    unfold fq fz mp
    rw [wr (x := w0 (tp w) - (tp w).b.f0) ⟨by omega, by omega⟩, wr (x := w0 (tp w) - (tp w).a.f0) ⟨by omega, by omega⟩, wr (x := w0 (tp w) - (tp w).d.f0) ⟨by omega, by omega⟩, wr (x := w0 (tp w) - (tp w).c.f0) ⟨by omega, by omega⟩]
  unfold sim smB
  rw [Bool.or_eq_true, eqLn_iff, eqLn_iff, hf, tq_tp hv, tq_tp hw]
  constructor
  · rintro (h | h)
    · exact .inl (ql_inj h)
    · exact .inr (ql_inj h)
  · rintro (h | h)
    · exact .inl (by rw [h])
    · exact .inr (by rw [h])
theorem sm_symm {v w : Q} (h : smB v w) : smB w v := by
  rcases h with h | h
  · exact .inl h.symm
  · exact .inr (by rw [h, gm_gm])
theorem sm_trans {u v w : Q} (h : smB u v) (k : smB v w) : smB u w := by
  unfold smB at *
  rcases h with h | h <;> rcases k with k | k
  · exact .inl (h.trans k)
  · exact .inr (h.trans k)
  · exact .inr (by rw [h, k])
  · exact .inl (by rw [h, k, gm_gm])
theorem sm_fz (S : Int) (v w : Q) : smB (fz S v) (fz S w) ↔ smB v w := by
  unfold smB
  rw [tp_fz, tp_fz]
  constructor
  · rintro (h | h)
    · have := congrArg gm h
      rw [gm_gm, gm_gm] at this
      exact .inl this
    · rw [gm_gm] at h
      have := congrArg gm h
      rw [gm_gm] at this
      exact .inr this
  · rintro (h | h)
    · exact .inl (by rw [h])
    · exact .inr (by rw [h])
def ob (b : Bool) : Int := if b = true then 0 else 1
theorem ob_le (b : Bool) : 0 ≤ ob b ∧ ob b ≤ 1 := by cases b <;> decide
theorem ob_t : ob true = 0 := rfl
def cls : List Q → Int
  | [] => 0
  | v :: s => ob (s.any (sim v)) + cls s
def nf : List Q → List Q → Int
  | _, [] => 0
  | p, v :: s => ob (p.any (sim v)) + nf (p ++ [v]) s
theorem any_rev (v : Q) (l : List Q) : l.reverse.any (sim v) = l.any (sim v) := List.any_reverse
theorem nf_cls : ∀ (s p : List Q), nf p s = cls (p ++ s).reverse - cls p.reverse
  | [], p => by simp [nf]
  | v :: s, p => by
    rw [nf, nf_cls s (p ++ [v]), ← app_snoc]
    have e : cls (p ++ [v]).reverse = ob (p.any (sim v)) + cls p.reverse := by
      rw [List.reverse_append]
      show cls (v :: p.reverse) = _
      rw [cls, any_rev]
    rw [e]
    omega
theorem cls_snoc (x : Q) (hx : NQ x) : ∀ (l : List Q), (∀ q ∈ l, NQ q) → cls (l ++ [x]) = cls l + ob (l.any (sim x))
  | [], _ => rfl
  | y :: l, h => by
    have hy := h y List.mem_cons_self
    have hl : ∀ q ∈ l, NQ q := fun q hq => h q (List.mem_cons_of_mem _ hq)
    rw [List.cons_append, cls, cls_snoc x hx l hl, cls, List.any_append, List.any_cons]
    simp only [List.any_cons, List.any_nil, Bool.or_false]
    have hs : sim x y = sim y x := by
      rw [Bool.eq_iff_iff, sim_iff hx hy, sim_iff hy hx]
      exact ⟨sm_symm, sm_symm⟩
    rw [hs]
    cases c : sim y x with
    | false => simp only [Bool.or_false, Bool.false_or]; omega
    | true =>
      have e : l.any (sim y) = l.any (sim x) := by
        rw [Bool.eq_iff_iff, List.any_eq_true, List.any_eq_true]
        have hyx := (sim_iff hy hx).1 c
        constructor
        · rintro ⟨q, hq, k⟩
          exact ⟨q, hq, (sim_iff hx (hl q hq)).2 (sm_trans (sm_symm hyx) ((sim_iff hy (hl q hq)).1 k))⟩
        · rintro ⟨q, hq, k⟩
          exact ⟨q, hq, (sim_iff hy (hl q hq)).2 (sm_trans hyx ((sim_iff hx (hl q hq)).1 k))⟩
      rw [e]
      simp only [Bool.or_true, Bool.true_or, ob_t]
      omega
theorem cls_rev : ∀ (l : List Q), (∀ q ∈ l, NQ q) → cls l.reverse = cls l
  | [], _ => rfl
  | v :: s, h => by
    have hs : ∀ q ∈ s, NQ q := fun q hq => h q (List.mem_cons_of_mem _ hq)
    rw [List.reverse_cons, cls_snoc v (h v List.mem_cons_self) s.reverse (fun q hq => hs q (List.mem_reverse.1 hq)), cls_rev s hs, any_rev, cls]
    omega
theorem cls_fz (S : Int) : ∀ (l : List Q), (∀ q ∈ l, NQ q ∧ NQ (fz S q)) → cls (l.map (fz S)) = cls l
  | [], _ => rfl
  | v :: s, h => by
    have hv := h v List.mem_cons_self
    rw [List.map_cons, cls, cls, cls_fz S s (fun q hq => h q (List.mem_cons_of_mem _ hq))]
    congr 2
    rw [List.any_map, Bool.eq_iff_iff, List.any_eq_true, List.any_eq_true]
    constructor
    · rintro ⟨q, hq, k⟩
      have hqn := h q (List.mem_cons_of_mem _ hq)
      exact ⟨q, hq, (sim_iff hv.1 hqn.1).2 ((sm_fz S v q).1 ((sim_iff hv.2 hqn.2).1 k))⟩
    · rintro ⟨q, hq, k⟩
      have hqn := h q (List.mem_cons_of_mem _ hq)
      exact ⟨q, hq, (sim_iff hv.2 hqn.2).2 ((sm_fz S v q).2 ((sim_iff hv.1 hqn.1).1 k))⟩
def cnt : Int → List Int → Int
  | _, [] => 0
  | i, v :: l => (if v = i then 1 else 0) + cnt (i + 1) l
theorem firsts0 : ∀ (s p : List Int) (n : Int), (p ++ s).length < 1000 → 0 ≤ n → n ≤ p.length → Ev (fun k => gangsawlaw40_firsts.l0 k (p ++ s) n (p.length : Int)) (n + cnt p.length s)
  | [], p, n, _, _, _ => Ev.const1 (fun k => by simp only [gangsawlaw40_firsts.l0]; rw [if_neg (by simp)]; simp [cnt])
  | x :: s, p, n, hl, h0, h1 => by
    have hl2 : (p ++ x :: s).length = p.length + 1 + s.length := by simp; omega
    have ih := fun n a b => firsts0 s (p ++ [x]) n (by rw [← app_snoc]; exact hl) a b
    rw [← app_snoc, len_snoc] at ih
    refine Ev.step (f := fun k => if x = (p.length : Int) then gangsawlaw40_firsts.l0 k (p ++ x :: s) (n + 1) ((p.length : Int) + 1) else gangsawlaw40_firsts.l0 k (p ++ x :: s) n ((p.length : Int) + 1)) (fun k => ?_) ?_
    · simp only [gangsawlaw40_firsts.l0]
      rw [rd_app, hl2, if_pos (by omega), if_pos (by omega), wrn _ (by omega), wr (x := n + 1) ⟨by omega, by omega⟩]
    · rw [cnt]
      by_cases c : x = (p.length : Int)
      · simp only [if_pos c]
        refine Ev.eq (ih (n + 1) (by omega) (by omega)) (by omega)
      · simp only [if_neg c]
        refine Ev.eq (ih n h0 (by omega)) (by omega)
theorem firsts_ev (l : List Int) (h : l.length < 1000) : Ev (fun k => gangsawlaw40_firsts.f k l) (cnt 0 l) :=
  Ev.eq (firsts0 l [] 0 h (by omega) (by simp)) (by simp)
theorem fst_before (v : Q) (s : List Q) : ∀ (p : List Q) (i : Int), 0 ≤ i → (fst (sim v) i (p ++ v :: s) = i + p.length ↔ p.any (sim v) = false)
  | [], i, _ => by simp [fst, sim_self]
  | w :: p, i, h0 => by
    rw [List.cons_append, fst, List.any_cons]
    cases c : sim v w with
    | true =>
      simp only [if_true, Bool.true_or, List.length_cons]
      constructor
      · intro h; omega
      · intro h; cases h
    | false =>
      simp only [Bool.false_eq_true, if_false, Bool.false_or, List.length_cons]
      rw [← fst_before v s p (i + 1) (by omega)]
      constructor <;> intro h <;> omega
theorem cnt_nf (qs : List Q) : ∀ (s p : List Q), qs = p ++ s → cnt (p.length : Int) (s.map fun v => fst (sim v) 0 qs) = nf p s
  | [], p, _ => rfl
  | v :: s, p, h => by
    have ih := cnt_nf qs s (p ++ [v]) (by rw [← app_snoc]; exact h)
    rw [len_snoc] at ih
    rw [List.map_cons, cnt, ih, nf]
    congr 1
    have := fst_before v s p 0 (by omega)
    rw [← h, Int.zero_add] at this
    cases c : p.any (sim v) with
    | false => rw [if_pos (this.2 c)]; rfl
    | true => rw [if_neg (fun e => by have := this.1 e; rw [c] at this; cases this)]; rfl
theorem cnt_kinds (qs : List Q) (hN : ∀ q ∈ qs, NQ q) : cnt 0 (kinds qs) = cls qs := by
  have h1 := cnt_nf qs qs [] rfl
  have h2 := nf_cls qs []
  rw [List.nil_append, cls_rev qs hN] at h2
  unfold kinds
  refine Eq.trans h1 (h2.trans ?_)
  show cls qs - 0 = cls qs
  omega
theorem nf_half (L : List Q) (hs : ∀ (p : List Q) (v : Q) (s : List Q), L = p ++ v :: s → L.length ≤ 2 * p.length → p.any (sim v) = true) : ∀ (s p : List Q), L = p ++ s → 0 ≤ nf p s ∧ (2 * nf p s ≤ (L.length : Int) + 1 - 2 * p.length ∨ nf p s = 0)
  | [], p, _ => ⟨by simp [nf], .inr rfl⟩
  | v :: s, p, h => by
    have hl : L.length = p.length + 1 + s.length := by rw [h]; simp; omega
    obtain ⟨i1, i2⟩ := nf_half L hs s (p ++ [v]) (by rw [← app_snoc]; exact h)
    rw [len_snoc] at i2
    rw [nf]
    have hb := ob_le (p.any (sim v))
    by_cases c : L.length ≤ 2 * p.length
    · rw [hs p v s h c, ob_t]
      omega
    · omega
theorem sym_half {x : Q} {s : List Q} {y : Q} {t : List Q} {S : Int} (ok : Ok x s) (m : MI x s y t S) (h : x :: s = y :: t) : 2 * cls (x :: s) ≤ ((x :: s).length : Int) + 1 := by
  have hm := m.map
  rw [← h] at hm
  have hN := ok.nq
  have h2 := nf_cls (x :: s) []
  rw [List.nil_append, cls_rev _ hN] at h2
  have key := nf_half (x :: s) (fun p v u hp hle => ?_) (x :: s) [] rfl
  · have e : cls ([] : List Q).reverse = 0 := rfl
    rw [e] at h2
    simp only [List.length_nil] at key
    omega
  · have hl : (x :: s).length = p.length + 1 + u.length := by rw [hp]; simp; omega
    have hv : (x :: s)[p.length]? = some v := by rw [hp]; simp
    have h1 : (((x :: s).map (fz S)).reverse)[p.length]? = some v := by rw [← hm]; exact hv
    rw [List.getElem?_reverse (by rw [List.length_map]; omega), List.length_map, List.getElem?_map] at h1
    obtain ⟨w, hw, e⟩ := Option.map_eq_some_iff.1 h1
    obtain ⟨j, hj⟩ : ∃ j, (x :: s).length - 1 - p.length = j := ⟨_, rfl⟩
    rw [hj] at hw
    have hjp : j < p.length := by omega
    have hwp : w ∈ p := by
      have : (x :: s)[j]? = p[j]? := by rw [hp, List.getElem?_append_left hjp]
      rw [this] at hw
      exact List.mem_of_getElem? hw
    refine List.any_eq_true.2 ⟨w, hwp, ?_⟩
    have hwN := hN w (by rw [hp]; simp [hwp])
    have hvN := hN v (by rw [hp]; simp)
    refine (sim_iff hvN hwN).2 (.inr ?_)
    rw [← e, tp_fz]

end Go.Proofs.Ytjlljjnkjhdljaa.XA
