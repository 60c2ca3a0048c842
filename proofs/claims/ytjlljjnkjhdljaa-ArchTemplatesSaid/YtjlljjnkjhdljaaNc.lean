import Derived.Test.YtjlljjnkjhdljaaHa
import Derived.Test.YtjlljjnkjhdljaaHb
import Derived.Test.YtjlljjnkjhdljaaHd
import Derived.Test.YtjlljjnkjhdljaaHe
import Derived.Test.YtjlljjnkjhdljaaXAx0
import Derived.Test.YtjlljjnkjhdljaaXAx11
import Derived.Test.YtjlljjnkjhdljaaXAx16
import Derived.Test.YtjlljjnkjhdljaaXAx17
import Derived.Test.YtjlljjnkjhdljaaXAx18
import Derived.Test.YtjlljjnkjhdljaaXAx19
import Derived.Test.YtjlljjnkjhdljaaXAx21
import Derived.Test.YtjlljjnkjhdljaaXAx22
import Derived.Test.YtjlljjnkjhdljaaXAx24
import Derived.Test.YtjlljjnkjhdljaaXAx25
import Derived.Test.YtjlljjnkjhdljaaXAx3
import Derived.Test.YtjlljjnkjhdljaaXAx30
import Derived.Test.YtjlljjnkjhdljaaXAx31
import Derived.Test.YtjlljjnkjhdljaaXAx32
import Derived.Test.YtjlljjnkjhdljaaXAx4
import Derived.Test.YtjlljjnkjhdljaaXAx6
import Derived.Test.YtjlljjnkjhdljaaXAx7
import Derived.Test.YtjlljjnkjhdljaaXAx8
import Derived.Test.YtjlljjnkjhdljaaXAx9
set_option linter.unusedVariables false
set_option linter.unusedSimpArgs false
namespace Go.Proofs.Ytjlljjnkjhdljaa.XA
set_option linter.unusedVariables false
set_option linter.unusedSimpArgs false
open Go.RowKit Go.Proofs.Ytjlljjnkjhdljaa.Opens Go.Proofs.YtjlljjnkjhdljaaW.PrintWords Go.Proofs.YtjlljjnkjhdljaaW.PrintLast Go.Proofs.YtjlljjnkjhdljaaW.PrintMore
theorem wr {x : Int} (h : -9223372036854775808 ≤ x ∧ x ≤ 9223372036854775807) : wrap64 x = x := by unfold wrap64; omega
theorem rdT_app (p s : List S46) (e : S46) : rd_T46 (p ++ e :: s) (p.length : Int) = e := by
  simp [rd_T46, List.getD_eq_getElem?_getD]
theorem rdL_app (p s : List (List S46)) (e : List S46) : rd_L2 (p ++ e :: s) (p.length : Int) = e := by
  simp [rd_L2, List.getD_eq_getElem?_getD]
theorem len_app {α : Type} (p s : List α) (e : α) : ((p.length : Nat) : Int) < ((p ++ e :: s).length : Int) := by simp; omega
theorem app_snoc {α : Type} (p s : List α) (e : α) : p ++ e :: s = (p ++ [e]) ++ s := by simp
theorem len_snoc {α : Type} (p : List α) (e : α) : ((p ++ [e]).length : Int) = (p.length : Int) + 1 := by simp
theorem Ev.eq {α : Type} {g : Nat → Option α} {r s : α} (h : Ev g r) (e : r = s) : Ev g s := e ▸ h
theorem Ev.const {α : Type} {g : Nat → Option α} {r : α} (h : ∀ k, g k = some r) : Ev g r := ⟨0, fun k _ => h k⟩
theorem Ev.const1 {α : Type} {g : Nat → Option α} {r : α} (h : ∀ k, g (k + 1) = some r) : Ev g r := ⟨1, fun k hk => by
  obtain ⟨m, rfl⟩ : ∃ m, k = m + 1 := ⟨k - 1, by omega⟩
  exact h m⟩
theorem Ev.late {α : Type} {g : Nat → Option α} {r : α} (K : Nat) (h : ∀ k, g (k + K) = some r) : Ev g r := ⟨K, fun k hk => by
  obtain ⟨m, rfl⟩ : ∃ m, k = m + K := ⟨k - K, by omega⟩
  exact h m⟩
theorem wrn (n : Nat) (h : n < 1000000) : wrap64 ((n : Int) + 1) = (n : Int) + 1 := wr ⟨by omega, by omega⟩

def fst {α : Type} (P : α → Bool) : Int → List α → Int
  | _, [] => -1
  | i, x :: s => if P x = true then i else fst P (i + 1) s
theorem fst_any {α : Type} (P : α → Bool) : ∀ (s : List α) (i : Int), 0 ≤ i → decide (fst P i s ≥ 0) = s.any P
  | [], _, _ => rfl
  | x :: s, i, h => by
    rw [fst, List.any_cons]
    by_cases c : P x = true
    · rw [if_pos c, c, decide_eq_true h]; rfl
    · rw [if_neg c, fst_any P s (i + 1) (by omega), Bool.eq_false_iff.2 c]; rfl
theorem ix_ev {α : Type} (L : Nat → List α → Int → Int → Option Int) (g : Nat → α → Option Bool) (rdx : List α → Int → α) (hr : ∀ p s e, rdx (p ++ e :: s) ((p.length : Nat) : Int) = e)
    (hL : ∀ k xs n i, L (k + 1) xs n i = if i < n then (if 0 ≤ i then (if i < (xs.length : Int) then ((g k (rdx xs i)).bind fun t => (if t = true then (some i) else (L k xs n (wrap64 (i + 1))))) else none) else none) else (some (-1))) (P : α → Bool) :
    ∀ (s p : List α), (∀ x ∈ s, Ev (fun k => g k x) (P x)) → (p ++ s).length < 1000000 → Ev (fun k => L k (p ++ s) ((p ++ s).length : Int) (p.length : Int)) (fst P p.length s)
  | [], p, _, hl => by
    refine Ev.const1 (fun k => ?_)
    rw [hL, if_neg (by simp)]
    rfl
  | x :: s, p, hP, hl => by
    refine Ev.step (f := fun k => (g k x).bind fun t => (if t = true then (some (p.length : Int)) else (L k (p ++ x :: s) ((p ++ x :: s).length : Int) ((p.length : Int) + 1)))) (fun k => ?_) ?_
    · rw [hL, if_pos (len_app p s x), if_pos (by omega), if_pos (len_app p s x), hr, wrn _ (by simp at hl; omega)]
    · refine Ev.bind (f := fun k t => if t = true then (some (p.length : Int)) else (L k (p ++ x :: s) ((p ++ x :: s).length : Int) ((p.length : Int) + 1))) (hP x (List.mem_cons_self)) ?_
      rw [fst]
      by_cases c : P x = true
      · simp only [if_pos c]
        exact Ev.now _
      · simp only [if_neg c]
        have := ix_ev L g rdx hr hL P s (p ++ [x]) (fun y hy => hP y (List.mem_cons_of_mem _ hy)) (by rw [← app_snoc]; exact hl)
        rw [← app_snoc, len_snoc] at this
        exact this
theorem ix_any {α : Type} (L : Nat → List α → Int → Int → Option Int) (g : Nat → α → Option Bool) (rdx : List α → Int → α) (hr : ∀ p s e, rdx (p ++ e :: s) ((p.length : Nat) : Int) = e)
    (hL : ∀ k xs n i, L (k + 1) xs n i = if i < n then (if 0 ≤ i then (if i < (xs.length : Int) then ((g k (rdx xs i)).bind fun t => (if t = true then (some i) else (L k xs n (wrap64 (i + 1))))) else none) else none) else (some (-1))) (P : α → Bool)
    (s : List α) (hP : ∀ x ∈ s, Ev (fun k => g k x) (P x)) (hl : s.length < 1000000) : Ev (fun k => (L k s (s.length : Int) 0).bind fun t => some (decide (t ≥ 0))) (s.any P) := by
  have h := ix_ev L g rdx hr hL P s [] hP hl
  refine Ev.bind (f := fun _ t => some (decide (t ≥ 0))) h ?_
  rw [← fst_any P s 0 (by omega)]
  exact Ev.now _

structure Q where
  a : S46
  b : S46
  c : S46
  d : S46
def ql (q : Q) : List S46 := [q.a, q.b, q.c, q.d]
def toQ (l : List S46) : Q := ⟨rd_T46 l 0, rd_T46 l 1, rd_T46 l 2, rd_T46 l 3⟩
theorem ql_toQ (l : List S46) (h : l.length = 4) : ql (toQ l) = l := by
  match l, h with
  | [a, b, c, d], _ => rfl
theorem qs_of (l : List (List S46)) (h : l.any (fun v => (v.length : Int) != 4) = false) : (l.map toQ).map ql = l := by
  induction l with
  | nil => rfl
  | cons x l ih =>
    simp only [List.any_cons, Bool.or_eq_false_iff] at h
    rw [List.map_cons, List.map_cons, ih h.2, ql_toQ x (by have := h.1; simp at this; omega)]
theorem ql_any (qs : List Q) : (qs.map ql).any (fun v => (v.length : Int) != 4) = false := by
  induction qs with
  | nil => rfl
  | cons x l ih => rw [List.map_cons, List.any_cons, ih]; rfl
def S46.eqb (p q : S46) : Bool := (p.f0 == q.f0) && (p.f1 == q.f1)
theorem S46.ext' {p q : S46} (h0 : p.f0 = q.f0) (h1 : p.f1 = q.f1) : p = q := by cases p; cases q; simp_all
theorem S46.eqb_iff (p q : S46) : S46.eqb p q = true ↔ p = q := by
  unfold S46.eqb
  simp only [Bool.and_eq_true, beq_iff_eq]
  exact ⟨fun h => S46.ext' h.1 h.2, fun h => by rw [h]; exact ⟨rfl, rfl⟩⟩

def farB (p : S46) : Bool := decide (p.f0 < -1000000) || decide (p.f0 > 1000000) || decide (p.f1 < -1000000) || decide (p.f1 > 1000000)
theorem far_f (p : S46) : arch_far.f p.f0 p.f1 = some (farB p) := by
  unfold arch_far.f farB
  by_cases h1 : p.f0 < -1000000
  · rw [if_pos h1, decide_eq_true h1]; rfl
  · rw [if_neg h1, decide_eq_false h1]
    by_cases h2 : p.f0 > 1000000
    · rw [if_pos h2, decide_eq_true h2]; rfl
    · rw [if_neg h2, decide_eq_false h2]
      by_cases h3 : p.f1 < -1000000
      · rw [if_pos h3, decide_eq_true h3]; rfl
      · rw [if_neg h3, decide_eq_false h3]; rfl
theorem anyfar_ev (l : List S46) (hl : l.length < 1000000) : Ev (fun k => api_Point_55_by_arch_far.f k l) (l.any farB) := by
  refine Ev.congr (fun k => ?_) (ix_any api_Point_68_by_arch_far.l0 (fun _ p => arch_far.f p.f0 p.f1) rd_T46 rdT_app (fun _ _ _ _ => rfl) farB l (fun x _ => Ev.const fun _ => far_f x) hl)
  rfl
def cv (q : Q) : Bool := !(decide (crs q.a q.b q.c ≤ 0) || decide (crs q.b q.c q.d ≤ 0) || decide (crs q.c q.d q.a ≤ 0) || decide (crs q.d q.a q.b ≤ 0))
theorem cv_steps (q : Q) (k : Nat) : arch_convex.l0 (k + 1) (ql q) 4 0 = (if crs q.a q.b q.c ≤ 0 then some false else arch_convex.l0 k (ql q) 4 1) ∧ arch_convex.l0 (k + 1) (ql q) 4 1 = (if crs q.b q.c q.d ≤ 0 then some false else arch_convex.l0 k (ql q) 4 2) ∧
    arch_convex.l0 (k + 1) (ql q) 4 2 = (if crs q.c q.d q.a ≤ 0 then some false else arch_convex.l0 k (ql q) 4 3) ∧ arch_convex.l0 (k + 1) (ql q) 4 3 = (if crs q.d q.a q.b ≤ 0 then some false else arch_convex.l0 k (ql q) 4 4) ∧ arch_convex.l0 (k + 1) (ql q) 4 4 = some true :=
  ⟨by kernel_rfl, by kernel_rfl, by kernel_rfl, by kernel_rfl, by kernel_rfl⟩
theorem convex_f (q : Q) (k : Nat) : arch_convex.f (k + 5) (ql q) = some (cv q) := by
  show arch_convex.l0 (k + 5) (ql q) 4 0 = some (cv q)
  unfold cv
  rw [(cv_steps q (k + 4)).1]
  by_cases h1 : crs q.a q.b q.c ≤ 0
  · rw [if_pos h1, decide_eq_true h1]; rfl
  rw [if_neg h1, decide_eq_false h1, (cv_steps q (k + 3)).2.1]
  by_cases h2 : crs q.b q.c q.d ≤ 0
  · rw [if_pos h2, decide_eq_true h2]; rfl
  rw [if_neg h2, decide_eq_false h2, (cv_steps q (k + 2)).2.2.1]
  by_cases h3 : crs q.c q.d q.a ≤ 0
  · rw [if_pos h3, decide_eq_true h3]; rfl
  rw [if_neg h3, decide_eq_false h3, (cv_steps q (k + 1)).2.2.2.1]
  by_cases h4 : crs q.d q.a q.b ≤ 0
  · rw [if_pos h4, decide_eq_true h4]; rfl
  rw [if_neg h4, decide_eq_false h4, (cv_steps q k).2.2.2.2]; rfl
theorem rcv_steps (q : Q) (k : Nat) : gangsawref40_convex.l0 (k + 1) (ql q) 0 = (if crs q.a q.b q.c ≤ 0 then some false else gangsawref40_convex.l0 k (ql q) 1) ∧ gangsawref40_convex.l0 (k + 1) (ql q) 1 = (if crs q.b q.c q.d ≤ 0 then some false else gangsawref40_convex.l0 k (ql q) 2) ∧
    gangsawref40_convex.l0 (k + 1) (ql q) 2 = (if crs q.c q.d q.a ≤ 0 then some false else gangsawref40_convex.l0 k (ql q) 3) ∧ gangsawref40_convex.l0 (k + 1) (ql q) 3 = (if crs q.d q.a q.b ≤ 0 then some false else gangsawref40_convex.l0 k (ql q) 4) ∧ gangsawref40_convex.l0 (k + 1) (ql q) 4 = some true :=
  ⟨by kernel_rfl, by kernel_rfl, by kernel_rfl, by kernel_rfl, by kernel_rfl⟩
theorem rconvex_f (q : Q) (k : Nat) : gangsawref40_convex.f (k + 5) (ql q) = some (cv q) := by
  show gangsawref40_convex.l0 (k + 5) (ql q) 0 = some (cv q)
  unfold cv
  rw [(rcv_steps q (k + 4)).1]
  by_cases h1 : crs q.a q.b q.c ≤ 0
  · rw [if_pos h1, decide_eq_true h1]; rfl
  rw [if_neg h1, decide_eq_false h1, (rcv_steps q (k + 3)).2.1]
  by_cases h2 : crs q.b q.c q.d ≤ 0
  · rw [if_pos h2, decide_eq_true h2]; rfl
  rw [if_neg h2, decide_eq_false h2, (rcv_steps q (k + 2)).2.2.1]
  by_cases h3 : crs q.c q.d q.a ≤ 0
  · rw [if_pos h3, decide_eq_true h3]; rfl
  rw [if_neg h3, decide_eq_false h3, (rcv_steps q (k + 1)).2.2.2.1]
  by_cases h4 : crs q.d q.a q.b ≤ 0
  · rw [if_pos h4, decide_eq_true h4]; rfl
  rw [if_neg h4, decide_eq_false h4, (rcv_steps q k).2.2.2.2]; rfl
def lf (p q : S46) (y : Q) : Bool := decide (crs p q y.a > 0) || decide (crs p q y.b > 0) || decide (crs p q y.c > 0) || decide (crs p q y.d > 0)
def sp (x y : Q) : Bool := !lf x.a x.b y || !lf x.b x.c y || !lf x.c x.d y || !lf x.d x.a y
theorem lf_lefts (p q : S46) (y : Q) : lefts (p, q) (ql y) = lf p q y := by
  simp [lefts, ql, lf, Bool.or_assoc]
theorem edges_ql (x : Q) : edge_upto (ql x) 4 = [(x.a, x.b), (x.b, x.c), (x.c, x.d), (x.d, x.a)] := by kernel_rfl
theorem apart_f (k : Nat) (x y : Q) : arch_apart.f k (ql x) (ql y) = some (sp x y) := by
  unfold arch_apart.f
  rw [if_pos (by simp [ql]), show (ql x).length = 4 from rfl, edges_ql]
  simp only [apt, List.any_cons, List.any_nil, lf_lefts, Bool.or_false, sp, Bool.or_assoc]
theorem sep_in (x y : Q) (k : Nat) (b : Bool) :
    gangsawref40_separated.l1 (k + 5) (ql x) (ql y) 0 b 0 = (if (b && !lf x.a x.b y) = true then some true else gangsawref40_separated.l0 k (ql x) (ql y) 1) ∧
    gangsawref40_separated.l1 (k + 5) (ql x) (ql y) 1 b 0 = (if (b && !lf x.b x.c y) = true then some true else gangsawref40_separated.l0 k (ql x) (ql y) 2) ∧
    gangsawref40_separated.l1 (k + 5) (ql x) (ql y) 2 b 0 = (if (b && !lf x.c x.d y) = true then some true else gangsawref40_separated.l0 k (ql x) (ql y) 3) ∧
    gangsawref40_separated.l1 (k + 5) (ql x) (ql y) 3 b 0 = (if (b && !lf x.d x.a y) = true then some true else gangsawref40_separated.l0 k (ql x) (ql y) 4) := by
  have st : ∀ (k : Nat) (b : Bool) (j : Int) (p q r : S46) (i : Int), (∀ k b, gangsawref40_separated.l1 (k + 1) (ql x) (ql y) i b j = (if crs p q r > 0 then gangsawref40_separated.l1 k (ql x) (ql y) i false (wrap64 (j + 1)) else gangsawref40_separated.l1 k (ql x) (ql y) i b (wrap64 (j + 1)))) →
      gangsawref40_separated.l1 (k + 1) (ql x) (ql y) i b j = gangsawref40_separated.l1 k (ql x) (ql y) i (b && !decide (crs p q r > 0)) (wrap64 (j + 1)) := fun k b j p q r i h => by
    rw [h]
    by_cases c : crs p q r > 0
    · rw [if_pos c, decide_eq_true c]; simp
    · rw [if_neg c, decide_eq_false c]; simp
  have fin : ∀ (i i' : Int) (p q : S46), (∀ (k : Nat) (b : Bool), gangsawref40_separated.l1 (k + 1) (ql x) (ql y) i b 0 = (if crs p q y.a > 0 then gangsawref40_separated.l1 k (ql x) (ql y) i false (wrap64 (0 + 1)) else gangsawref40_separated.l1 k (ql x) (ql y) i b (wrap64 (0 + 1)))) →
      (∀ (k : Nat) (b : Bool), gangsawref40_separated.l1 (k + 1) (ql x) (ql y) i b 1 = (if crs p q y.b > 0 then gangsawref40_separated.l1 k (ql x) (ql y) i false (wrap64 (1 + 1)) else gangsawref40_separated.l1 k (ql x) (ql y) i b (wrap64 (1 + 1)))) →
      (∀ (k : Nat) (b : Bool), gangsawref40_separated.l1 (k + 1) (ql x) (ql y) i b 2 = (if crs p q y.c > 0 then gangsawref40_separated.l1 k (ql x) (ql y) i false (wrap64 (2 + 1)) else gangsawref40_separated.l1 k (ql x) (ql y) i b (wrap64 (2 + 1)))) →
      (∀ (k : Nat) (b : Bool), gangsawref40_separated.l1 (k + 1) (ql x) (ql y) i b 3 = (if crs p q y.d > 0 then gangsawref40_separated.l1 k (ql x) (ql y) i false (wrap64 (3 + 1)) else gangsawref40_separated.l1 k (ql x) (ql y) i b (wrap64 (3 + 1)))) →
      (∀ (k : Nat) (b : Bool), gangsawref40_separated.l1 (k + 1) (ql x) (ql y) i b 4 = (if b = true then some true else gangsawref40_separated.l0 k (ql x) (ql y) i')) →
      gangsawref40_separated.l1 (k + 5) (ql x) (ql y) i b 0 = (if (b && !lf p q y) = true then some true else gangsawref40_separated.l0 k (ql x) (ql y) i') := fun i i' p q h0 h1 h2 h3 h4 => by
    rw [st (k + 4) b 0 p q y.a i h0, show wrap64 (0 + 1) = 1 from by decide +kernel, st (k + 3) _ 1 p q y.b i h1, show wrap64 (1 + 1) = 2 from by decide +kernel, st (k + 2) _ 2 p q y.c i h2, show wrap64 (2 + 1) = 3 from by decide +kernel, st (k + 1) _ 3 p q y.d i h3, show wrap64 (3 + 1) = 4 from by decide +kernel, h4]
    congr 1
    unfold lf
    simp [Bool.and_assoc]
  exact ⟨fin 0 1 x.a x.b (fun _ _ => by kernel_rfl) (fun _ _ => by kernel_rfl) (fun _ _ => by kernel_rfl) (fun _ _ => by kernel_rfl) (fun _ _ => by kernel_rfl), fin 1 2 x.b x.c (fun _ _ => by kernel_rfl) (fun _ _ => by kernel_rfl) (fun _ _ => by kernel_rfl) (fun _ _ => by kernel_rfl) (fun _ _ => by kernel_rfl), fin 2 3 x.c x.d (fun _ _ => by kernel_rfl) (fun _ _ => by kernel_rfl) (fun _ _ => by kernel_rfl) (fun _ _ => by kernel_rfl) (fun _ _ => by kernel_rfl), fin 3 4 x.d x.a (fun _ _ => by kernel_rfl) (fun _ _ => by kernel_rfl) (fun _ _ => by kernel_rfl) (fun _ _ => by kernel_rfl) (fun _ _ => by kernel_rfl)⟩
theorem sep_f (x y : Q) (k : Nat) : gangsawref40_separated.f (k + 25) (ql x) (ql y) = some (sp x y) := by
  show gangsawref40_separated.l0 (k + 25) (ql x) (ql y) 0 = _
  rw [show gangsawref40_separated.l0 (k + 25) (ql x) (ql y) 0 = gangsawref40_separated.l1 (k + 19 + 5) (ql x) (ql y) 0 true 0 from by kernel_rfl, (sep_in x y (k + 19) true).1]
  unfold sp
  by_cases h1 : (true && !lf x.a x.b y) = true
  · rw [if_pos h1]; simp at h1; simp [h1]
  rw [if_neg h1, show gangsawref40_separated.l0 (k + 19) (ql x) (ql y) 1 = gangsawref40_separated.l1 (k + 13 + 5) (ql x) (ql y) 1 true 0 from by kernel_rfl, (sep_in x y (k + 13) true).2.1]
  by_cases h2 : (true && !lf x.b x.c y) = true
  · rw [if_pos h2]; simp at h2; simp [h2]
  rw [if_neg h2, show gangsawref40_separated.l0 (k + 13) (ql x) (ql y) 2 = gangsawref40_separated.l1 (k + 7 + 5) (ql x) (ql y) 2 true 0 from by kernel_rfl, (sep_in x y (k + 7) true).2.2.1]
  by_cases h3 : (true && !lf x.c x.d y) = true
  · rw [if_pos h3]; simp at h3; simp [h3]
  rw [if_neg h3, show gangsawref40_separated.l0 (k + 7) (ql x) (ql y) 3 = gangsawref40_separated.l1 (k + 1 + 5) (ql x) (ql y) 3 true 0 from by kernel_rfl, (sep_in x y (k + 1) true).2.2.2]
  by_cases h4 : (true && !lf x.d x.a y) = true
  · rw [if_pos h4]; simp at h4; simp [h4]
  rw [if_neg h4, show gangsawref40_separated.l0 (k + 1) (ql x) (ql y) 4 = some false from by kernel_rfl]
  simp at h1 h2 h3 h4; simp [h1, h2, h3, h4]

def jt : Q → List Q → Bool
  | _, [] => true
  | p, q :: s => (S46.eqb p.b q.a && S46.eqb p.c q.d) && jt q s
def lastQ : Q → List Q → Q
  | x, [] => x
  | _, y :: s => lastQ y s
def ends (x : Q) (s : List Q) : Bool := decide (x.a.f1 = (lastQ x s).b.f1) && !decide (x.a.f0 ≥ (lastQ x s).b.f0)
def clr (x : Q) (ys : List Q) : Bool := ys.all fun y => sp x y || sp y x
def ovs : List Q → List Q → Bool
  | _, [] => true
  | p, x :: s => clr x p && ovs (p ++ [x]) s
def ckj : List Q → Int
  | [] => 0
  | x :: s => if jt x s = true then (if ends x s = true then (if ovs [] (x :: s) = true then 0 else 11) else 8) else 10
def ckq (qs : List Q) : Int := if qs.any (fun q => (ql q).any farB) = true then 6 else if qs.any (fun q => !cv q) = true then 1 else ckj qs
def ck (l : List (List S46)) : Int := if (l.length : Int) > 64 then 7 else if (l.length : Int) = 0 then 1 else if l.any (fun v => (v.length : Int) != 4) = true then 1 else ckq (l.map toQ)
theorem rdQ_app (p s : List Q) (x : Q) : rd_L2 ((p ++ x :: s).map ql) (p.length : Int) = ql x := by
  rw [List.map_append, List.map_cons, show (p.length : Int) = ((p.map ql).length : Int) by simp]
  exact rdL_app _ _ _
theorem lenQ (l : List Q) : ((l.map ql).length : Int) = (l.length : Int) := by simp
theorem neqb (p q : S46) : (!(p.f0 == q.f0) || (!(p.f1 == q.f1))) = !S46.eqb p q := by unfold S46.eqb; simp [Bool.not_and]
theorem ql4 (x : Q) : ((ql x).length : Int) = 4 := rfl
theorem cl0_step (p s : List Q) (x y : Q) (k : Nat) (n : Int) (hn : n = ((p ++ x :: y :: s).length : Int)) (hl : (p ++ x :: y :: s).length < 1000) :
    arch_Check.l0 (k + 1) ((p ++ x :: y :: s).map ql) n ((p.length : Int) + 1) = if (!S46.eqb x.b y.a) = true then some 10 else if (!S46.eqb x.c y.d) = true then some 10 else arch_Check.l0 k ((p ++ x :: y :: s).map ql) n ((p.length : Int) + 1 + 1) := by
  have hl2 : (p ++ x :: y :: s).length = p.length + 2 + s.length := by simp; omega
  have e1 : wrap64 ((p.length : Int) + 1 - 1) = (p.length : Int) := by rw [wr ⟨by omega, by omega⟩]; omega
  have e2 : rd_L2 ((p ++ x :: y :: s).map ql) ((p.length : Int) + 1) = ql y := by
    have := rdQ_app (p ++ [x]) s y
    rw [len_snoc, ← app_snoc] at this
    exact this
  simp only [arch_Check.l0]
  rw [e1, rdQ_app, e2, lenQ, hl2] 
  rw [if_pos (by omega), if_pos (by omega), if_pos (by omega), if_pos (by rw [ql4]; decide), if_pos (by omega), if_pos (by omega), if_pos (by rw [ql4]; decide)]
  rw [if_pos (show (2 : Int) < ((ql x).length : Int) by rw [ql4]; decide), if_pos (show (3 : Int) < ((ql y).length : Int) by rw [ql4]; decide)]
  rw [neqb, neqb, wr (x := (p.length : Int) + 1 + 1) ⟨by omega, by omega⟩]
  rfl
theorem cl0_ev (R : Int) : ∀ (s : List Q) (x : Q) (p : List Q), (p ++ x :: s).length < 1000 → Ev (fun k => arch_Check.l0 k ((p ++ x :: s).map ql) ((p ++ x :: s).length : Int) ((p ++ x :: s).length : Int)) R →
    Ev (fun k => arch_Check.l0 k ((p ++ x :: s).map ql) ((p ++ x :: s).length : Int) ((p.length : Int) + 1)) (if jt x s = true then R else 10)
  | [], x, p, hl, h => by
    rw [show ((p.length : Int) + 1) = ((p ++ [x]).length : Int) by simp]
    exact h
  | y :: s, x, p, hl, h => by
    have ih := cl0_ev R s y (p ++ [x]) (by rw [← app_snoc]; exact hl) (by rw [← app_snoc]; exact h)
    rw [← app_snoc, len_snoc] at ih
    refine Ev.step (fun k => cl0_step p s x y k _ rfl hl) ?_
    rw [jt]
    cases c1 : S46.eqb x.b y.a with
    | true =>
      cases c2 : S46.eqb x.c y.d with
      | true =>
        simp only [Bool.not_true, Bool.false_eq_true, if_false, Bool.and_self, Bool.true_and]
        exact ih
      | false =>
        simp only [Bool.not_true, Bool.not_false, Bool.false_eq_true, if_false, if_true, Bool.and_false, Bool.false_and]
        exact Ev.now _
    | false =>
      simp only [Bool.not_false, Bool.false_eq_true, if_false, if_true, Bool.false_and]
      exact Ev.now _
theorem cl2_ev (x : Q) (L : List (List S46)) (n i R : Int) (h : Ev (fun k => arch_Check.l1 k L L n (wrap64 (i + 1))) R) : ∀ (s p : List Q), (p ++ s).length < 1000 →
    Ev (fun k => arch_Check.l2 k L (ql x) L n i ((p ++ s).map ql) (((p ++ s).map ql).length : Int) (p.length : Int)) (if clr x s = true then R else 11)
  | [], p, hl => by
    refine Ev.step (fun k => by simp only [arch_Check.l2]; rw [if_neg (by simp)]) ?_
    exact h
  | y :: s, p, hl => by
    have hl2 : (p ++ y :: s).length = p.length + 1 + s.length := by simp; omega
    have ih := cl2_ev x L n i R h s (p ++ [y]) (by rw [← app_snoc]; exact hl)
    rw [← app_snoc, len_snoc] at ih
    refine Ev.step (f := fun k => if sp x y = true then arch_Check.l2 k L (ql x) L n i ((p ++ y :: s).map ql) (((p ++ y :: s).map ql).length : Int) ((p.length : Int) + 1) else if sp y x = true then arch_Check.l2 k L (ql x) L n i ((p ++ y :: s).map ql) (((p ++ y :: s).map ql).length : Int) ((p.length : Int) + 1) else some 11) (fun k => ?_) ?_
    · simp only [arch_Check.l2]
      rw [rdQ_app, lenQ, hl2, if_pos (by omega), if_pos (by omega), if_pos (by omega), apart_f, apart_f, wr (x := (p.length : Int) + 1) ⟨by omega, by omega⟩]
      rfl
    · unfold clr at ih ⊢
      rw [List.all_cons]
      by_cases c1 : sp x y = true
      · rw [c1]; simp only [if_true, Bool.true_or, Bool.true_and]; exact ih
      · rw [Bool.eq_false_iff.2 c1]
        simp only [Bool.false_or, Bool.false_eq_true, if_false]
        by_cases c2 : sp y x = true
        · rw [c2]; simp only [if_true, Bool.true_and]; exact ih
        · rw [Bool.eq_false_iff.2 c2]; simp only [Bool.false_and, Bool.false_eq_true, if_false]; exact Ev.now _
theorem cl1_ev : ∀ (s p : List Q), (p ++ s).length < 1000 → Ev (fun k => arch_Check.l1 k ((p ++ s).map ql) ((p ++ s).map ql) ((p ++ s).length : Int) (p.length : Int)) (if ovs p s = true then 0 else 11)
  | [], p, hl => by
    refine Ev.const1 (fun k => ?_)
    simp only [arch_Check.l1]
    rw [if_neg (by simp)]
    rfl
  | x :: s, p, hl => by
    have hl2 : (p ++ x :: s).length = p.length + 1 + s.length := by simp; omega
    have ih := cl1_ev s (p ++ [x]) (by rw [← app_snoc]; exact hl)
    rw [← app_snoc, len_snoc] at ih
    refine Ev.step (f := fun k => arch_Check.l2 k ((p ++ x :: s).map ql) (ql x) ((p ++ x :: s).map ql) ((p ++ x :: s).length : Int) (p.length : Int) (p.map ql) ((p.map ql).length : Int) 0) (fun k => ?_) ?_
    · simp only [arch_Check.l1]
      rw [rdQ_app, lenQ, hl2, if_pos (by omega), if_pos (by omega), if_pos (by omega), if_pos (by omega), Option.bind_some]
      rw [show ((p ++ x :: s).map ql).take (p.length : Int).toNat = p.map ql by rw [Int.toNat_natCast, List.map_append, List.take_left' (by simp)]]
    · have := cl2_ev x ((p ++ x :: s).map ql) ((p ++ x :: s).length : Int) (p.length : Int) _ (by rw [wr (x := (p.length : Int) + 1) ⟨by omega, by omega⟩]; exact ih) p [] (by simp only [List.nil_append]; omega)
      refine Ev.eq this ?_
      rw [ovs]
      cases clr x p <;> simp
theorem last_app : ∀ (s : List Q) (x : Q), ∃ p, x :: s = p ++ [lastQ x s] ∧ p.length = s.length
  | [], x => ⟨[], rfl, rfl⟩
  | y :: s, x => by
    obtain ⟨p, h1, h2⟩ := last_app s y
    exact ⟨x :: p, congrArg (x :: ·) h1, by simp [h2]⟩
theorem rdQ_last (s : List Q) (x : Q) : rd_L2 ((x :: s).map ql) (s.length : Int) = ql (lastQ x s) := by
  obtain ⟨p, h1, h2⟩ := last_app s x
  rw [h1, ← h2]
  exact rdQ_app p [] _
theorem springings_f (x : Q) (s : List Q) (hl : (x :: s).length < 1000) : arch_springings.f ((x :: s).map ql) = some (x.a.f0, x.a.f1, (lastQ x s).b.f0, (lastQ x s).b.f1) := by
  have hl2 : (x :: s).length = s.length + 1 := by simp
  unfold arch_springings.f
  have e : wrap64 ((((x :: s).map ql).length : Int) - 1) = (s.length : Int) := by rw [lenQ, hl2, wr ⟨by omega, by omega⟩]; omega
  rw [e, lenQ, hl2, rdQ_last, show rd_L2 ((x :: s).map ql) 0 = ql x from rdQ_app [] s x]
  rw [if_pos (by omega), if_pos (by rw [ql4]; decide), if_pos (by omega), if_pos (by omega), if_pos (by rw [ql4]; decide)]
  rfl
theorem ckj_ev (x : Q) (s : List Q) (hl : (x :: s).length < 1000) : Ev (fun k => arch_Check.l0 k ((x :: s).map ql) ((x :: s).length : Int) 1) (ckj (x :: s)) := by
  have h := cl0_ev (if ends x s = true then (if ovs [] (x :: s) = true then 0 else 11) else 8) s x [] hl ?_
  · exact h
  · refine Ev.step (f := fun k => if x.a.f1 = (lastQ x s).b.f1 then arch_Check.j2 k ((x :: s).map ql) (decide (x.a.f0 ≥ (lastQ x s).b.f0)) else arch_Check.j2 k ((x :: s).map ql) true) (fun k => ?_) ?_
    · simp only [arch_Check.l0]
      rw [if_neg (by omega), List.nil_append, springings_f x s hl, Option.bind_some]
    · have key : ∀ b : Bool, Ev (fun k => arch_Check.j2 k ((x :: s).map ql) b) (if b = true then 8 else if ovs [] (x :: s) = true then 0 else 11) := fun b => by
        refine Ev.step (f := fun k => if b = true then some 8 else arch_Check.l1 k ((x :: s).map ql) ((x :: s).map ql) ((x :: s).length : Int) 0) (fun k => by simp only [arch_Check.j2]; rw [lenQ]) ?_
        cases b with
        | true => exact Ev.now _
        | false => exact cl1_ev (x :: s) [] hl
      unfold ends
      by_cases c : x.a.f1 = (lastQ x s).b.f1
      · simp only [if_pos c, decide_eq_true c, Bool.true_and]
        refine Ev.eq (key _) ?_
        by_cases c2 : x.a.f0 ≥ (lastQ x s).b.f0 <;> simp [c2]
      · simp only [if_neg c, decide_eq_false c, Bool.false_and]
        exact key true
theorem Check_ev (l : List (List S46)) (hl : l.length < 1000) : Ev (fun k => arch_Check.f k l) (ck l) := by
  unfold ck
  by_cases h7 : (l.length : Int) > 64
  · rw [if_pos h7]
    exact Ev.const (fun k => by unfold arch_Check.f; rw [if_pos h7])
  rw [if_neg h7]
  by_cases h0 : (l.length : Int) = 0
  · rw [if_pos h0]
    refine Ev.late 1 (fun k => ?_)
    unfold arch_Check.f
    rw [if_neg h7, if_pos h0]
    rfl
  rw [if_neg h0]
  refine Ev.congr (f := fun k => (api_Polygon_53_by_arch_Check_1.f k l).bind fun t => arch_Check.j0 k l (l.length : Int) t) (fun k => by unfold arch_Check.f; rw [if_neg h7, if_neg h0]) ?_
  refine Ev.bind (f := fun k t => arch_Check.j0 k l (l.length : Int) t) (ix_any api_Polygon_50_by_arch_Check_1.l0 (fun _ v => arch_Check_1.f v) rd_L2 rdL_app (fun _ _ _ _ => rfl) (fun v => (v.length : Int) != 4) l (fun v _ => Ev.const fun _ => rfl) (by omega)) ?_
  by_cases h4 : l.any (fun v => (v.length : Int) != 4) = true
  · rw [if_pos h4, h4]
    exact Ev.late 1 (fun k => rfl)
  rw [if_neg h4]
  replace h4 := Bool.eq_false_iff.2 h4
  rw [h4]
  have hq := qs_of l h4
  generalize l.map toQ = qs at hq
  subst hq
  simp only [List.length_map] at hl h0 h7
  unfold ckq
  refine Ev.step (f := fun k => (api_Polygon_53_by_arch_Check_2.f k (qs.map ql)).bind fun t => if t = true then some 6 else (api_Polygon_53_by_arch_Check_3.f k (qs.map ql)).bind fun t => if t = true then some 1 else arch_Check.l0 k (qs.map ql) ((qs.map ql).length : Int) 1) (fun k => rfl) ?_
  refine Ev.bind (f := fun k t => if t = true then some 6 else (api_Polygon_53_by_arch_Check_3.f k (qs.map ql)).bind fun t => if t = true then some 1 else arch_Check.l0 k (qs.map ql) ((qs.map ql).length : Int) 1) (ix_any api_Polygon_50_by_arch_Check_2.l0 (fun k v => arch_Check_2.f k v) rd_L2 rdL_app (fun _ _ _ _ => rfl) (fun v => v.any farB) (qs.map ql) (fun v hv => ?_) (by rw [List.length_map]; omega)) ?_
  · obtain ⟨q, _, rfl⟩ := List.mem_map.1 hv
    exact Ev.bind (f := fun _ t => some t) (anyfar_ev (ql q) (show 4 < 1000000 by decide)) (Ev.now _)
  rw [List.any_map]
  by_cases hf : qs.any (fun q => (ql q).any farB) = true
  · rw [if_pos hf, show (qs.any ((fun v => v.any farB) ∘ ql)) = true from hf]
    exact Ev.now _
  rw [if_neg hf, show (qs.any ((fun v => v.any farB) ∘ ql)) = false from Bool.eq_false_iff.2 hf]
  simp only [Bool.false_eq_true, if_false]
  refine Ev.bind (f := fun k t => if t = true then some 1 else arch_Check.l0 k (qs.map ql) ((qs.map ql).length : Int) 1) (ix_any api_Polygon_50_by_arch_Check_3.l0 (fun k v => arch_Check_3.f k v) rd_L2 rdL_app (fun _ _ _ _ => rfl) (fun v => !cv (toQ v)) (qs.map ql) (fun v hv => ?_) (by rw [List.length_map]; omega)) ?_
  · obtain ⟨q, _, rfl⟩ := List.mem_map.1 hv
    exact Ev.late 5 (fun k => by unfold arch_Check_3.f; rw [convex_f]; rfl)
  rw [List.any_map]
  by_cases hc : qs.any (fun q => !cv q) = true
  · rw [if_pos hc, show (qs.any ((fun v => !cv (toQ v)) ∘ ql)) = true from hc]
    exact Ev.now _
  rw [if_neg hc, show (qs.any ((fun v => !cv (toQ v)) ∘ ql)) = false from Bool.eq_false_iff.2 hc]
  simp only [Bool.false_eq_true, if_false]
  cases qs with
  | nil => exact absurd rfl h0
  | cons x s =>
    rw [lenQ]
    exact ckj_ev x s hl

theorem near_f (a : Int) : gangsawref40_near.f a = some (decide (a ≥ -1000000) && decide (a ≤ 1000000)) := by
  unfold gangsawref40_near.f
  by_cases c : a ≥ -1000000
  · rw [if_pos c, decide_eq_true c]; rfl
  · rw [if_neg c, decide_eq_false c]; rfl
theorem near_far (p : S46) : ((decide (p.f0 ≥ -1000000) && decide (p.f0 ≤ 1000000)) && (decide (p.f1 ≥ -1000000) && decide (p.f1 ≤ 1000000))) = !farB p := by
  unfold farB
  rw [Bool.eq_iff_iff]
  simp only [Bool.and_eq_true, Bool.not_eq_true', Bool.or_eq_false_iff, decide_eq_true_eq, decide_eq_false_iff_not]
  omega
theorem rc0_ev (R : Int) : ∀ (s p : List (List S46)), (p ++ s).length < 1000 → Ev (fun k => gangsawref40_Check.l1 k (p ++ s) ((p ++ s).length : Int) 0) R →
    Ev (fun k => gangsawref40_Check.l0 k (p ++ s) ((p ++ s).length : Int) (p.length : Int)) (if s.any (fun v => (v.length : Int) != 4) = true then 1 else R)
  | [], p, hl, h => by
    refine Ev.step (fun k => by simp only [gangsawref40_Check.l0]; rw [if_neg (by simp)]) ?_
    exact h
  | x :: s, p, hl, h => by
    have hl2 : (p ++ x :: s).length = p.length + 1 + s.length := by simp; omega
    have ih := rc0_ev R s (p ++ [x]) (by rw [← app_snoc]; exact hl) (by rw [← app_snoc]; exact h)
    rw [← app_snoc, len_snoc] at ih
    refine Ev.step (f := fun k => if (x.length : Int) = 4 then gangsawref40_Check.l0 k (p ++ x :: s) ((p ++ x :: s).length : Int) ((p.length : Int) + 1) else some 1) (fun k => ?_) ?_
    · simp only [gangsawref40_Check.l0]
      rw [if_pos (len_app p s x), if_pos (by omega), if_pos (len_app p s x), rdL_app, wr (x := (p.length : Int) + 1) ⟨by omega, by omega⟩]
    · rw [List.any_cons]
      by_cases c : (x.length : Int) = 4
      · simp only [if_pos c]
        rw [show ((x.length : Int) != 4) = false by simp [c], Bool.false_or]
        exact ih
      · simp only [if_neg c]
        rw [show ((x.length : Int) != 4) = true by simp [c], Bool.true_or, if_pos rfl]
        exact Ev.now _
theorem rc2_row (L : List (List S46)) (n i : Int) (x : Q) (hx : rd_L2 L i = ql x) (h0 : 0 ≤ i) (h1 : i < (L.length : Int)) (k : Nat) :
    gangsawref40_Check.l2 (k + 5) L n i 0 = if (ql x).any farB = true then some 6 else gangsawref40_Check.l1 k L n (wrap64 (i + 1)) := by
  have st : ∀ (k : Nat) (j : Int) (p : S46), 0 ≤ j → j < 4 → rd_T46 (ql x) j = p → gangsawref40_Check.l2 (k + 1) L n i j = if farB p = true then some 6 else gangsawref40_Check.l2 k L n i (wrap64 (j + 1)) := fun k j p j0 j1 e => by
    simp only [gangsawref40_Check.l2]
    rw [if_pos j1, if_pos h0, if_pos h1, if_pos j0, hx, if_pos (by rw [ql4]; exact j1), e, near_f, near_f, Option.bind_some]
    have := near_far p
    generalize (decide (p.f0 ≥ -1000000) && decide (p.f0 ≤ 1000000)) = u at this ⊢
    generalize (decide (p.f1 ≥ -1000000) && decide (p.f1 ≤ 1000000)) = v at this ⊢
    cases u <;> cases v <;> cases hf : farB p <;> rw [hf] at this <;> first | rfl | (exact absurd this (by decide))
  rw [st (k + 4) 0 x.a (by omega) (by omega) rfl, show wrap64 (0 + 1) = 1 from by decide +kernel, st (k + 3) 1 x.b (by omega) (by omega) rfl, show wrap64 (1 + 1) = 2 from by decide +kernel, st (k + 2) 2 x.c (by omega) (by omega) rfl, show wrap64 (2 + 1) = 3 from by decide +kernel, st (k + 1) 3 x.d (by omega) (by omega) rfl, show wrap64 (3 + 1) = 4 from by decide +kernel]
  have e : gangsawref40_Check.l2 (k + 1) L n i 4 = gangsawref40_Check.l1 k L n (wrap64 (i + 1)) := by simp only [gangsawref40_Check.l2]; rw [if_neg (by omega)]
  rw [e]
  simp only [ql, List.any_cons, List.any_nil, Bool.or_false]
  cases farB x.a <;> cases farB x.b <;> cases farB x.c <;> cases farB x.d <;> rfl
theorem rc1_ev (R : Int) : ∀ (s p : List Q), (p ++ s).length < 1000 → Ev (fun k => gangsawref40_Check.l3 k ((p ++ s).map ql) ((p ++ s).length : Int) 0) R →
    Ev (fun k => gangsawref40_Check.l1 k ((p ++ s).map ql) ((p ++ s).length : Int) (p.length : Int)) (if s.any (fun q => (ql q).any farB) = true then 6 else R)
  | [], p, hl, h => by
    refine Ev.step (fun k => by simp only [gangsawref40_Check.l1]; rw [if_neg (by simp)]) ?_
    exact h
  | x :: s, p, hl, h => by
    have hl2 : (p ++ x :: s).length = p.length + 1 + s.length := by simp; omega
    have ih := rc1_ev R s (p ++ [x]) (by rw [← app_snoc]; exact hl) (by rw [← app_snoc]; exact h)
    rw [← app_snoc, len_snoc] at ih
    refine Ev.step (f := fun k => gangsawref40_Check.l2 k ((p ++ x :: s).map ql) ((p ++ x :: s).length : Int) (p.length : Int) 0) (fun k => ?_) ?_
    · simp only [gangsawref40_Check.l1]
      rw [if_pos (len_app p s x)]
    · have h2 : Ev (fun k => if (ql x).any farB = true then some 6 else gangsawref40_Check.l1 k ((p ++ x :: s).map ql) ((p ++ x :: s).length : Int) ((p.length : Int) + 1)) (if (x :: s).any (fun q => (ql q).any farB) = true then 6 else R) := by
        rw [List.any_cons]
        cases c : (ql x).any farB with
        | true => simp only [if_true, Bool.true_or]; exact Ev.now _
        | false => simp only [Bool.false_eq_true, if_false, Bool.false_or]; exact ih
      obtain ⟨K, hK⟩ := h2
      refine ⟨K + 5, fun k hk => ?_⟩
      obtain ⟨m, rfl⟩ : ∃ m, k = m + 5 := ⟨k - 5, by omega⟩
      show gangsawref40_Check.l2 (m + 5) _ _ _ _ = _
      rw [rc2_row _ _ _ x (rdQ_app p s x) (by omega) (by rw [lenQ]; exact len_app p s x), wr (x := (p.length : Int) + 1) ⟨by omega, by omega⟩]
      exact hK m (by omega)
theorem rc3_ev (R : Int) : ∀ (s p : List Q), (p ++ s).length < 1000 → Ev (fun k => gangsawref40_Check.l4 k ((p ++ s).map ql) ((p ++ s).length : Int) 1) R →
    Ev (fun k => gangsawref40_Check.l3 k ((p ++ s).map ql) ((p ++ s).length : Int) (p.length : Int)) (if s.any (fun q => !cv q) = true then 1 else R)
  | [], p, hl, h => by
    refine Ev.step (fun k => by simp only [gangsawref40_Check.l3]; rw [if_neg (by simp)]) ?_
    exact h
  | x :: s, p, hl, h => by
    have hl2 : (p ++ x :: s).length = p.length + 1 + s.length := by simp; omega
    have ih := rc3_ev R s (p ++ [x]) (by rw [← app_snoc]; exact hl) (by rw [← app_snoc]; exact h)
    rw [← app_snoc, len_snoc] at ih
    refine Ev.step (f := fun k => (gangsawref40_convex.f k (ql x)).bind fun t => if t = true then gangsawref40_Check.l3 k ((p ++ x :: s).map ql) ((p ++ x :: s).length : Int) ((p.length : Int) + 1) else some 1) (fun k => ?_) ?_
    · simp only [gangsawref40_Check.l3]
      rw [if_pos (len_app p s x), if_pos (by omega), if_pos (by rw [lenQ]; exact len_app p s x), rdQ_app, wr (x := (p.length : Int) + 1) ⟨by omega, by omega⟩]
    · refine Ev.bind (f := fun k t => if t = true then gangsawref40_Check.l3 k ((p ++ x :: s).map ql) ((p ++ x :: s).length : Int) ((p.length : Int) + 1) else some 1) (Ev.late 5 fun k => rconvex_f x k) ?_
      rw [List.any_cons]
      cases cv x with
      | true => simp only [if_true, Bool.not_true, Bool.false_or]; exact ih
      | false => simp only [Bool.false_eq_true, if_false, Bool.not_false, Bool.true_or, if_true]; exact Ev.now _
theorem rc4_step (p s : List Q) (x y : Q) (k : Nat) (n : Int) (hn : n = ((p ++ x :: y :: s).length : Int)) (hl : (p ++ x :: y :: s).length < 1000) :
    gangsawref40_Check.l4 (k + 1) ((p ++ x :: y :: s).map ql) n ((p.length : Int) + 1) = if (!S46.eqb x.b y.a) = true then some 10 else if (!S46.eqb x.c y.d) = true then some 10 else gangsawref40_Check.l4 k ((p ++ x :: y :: s).map ql) n ((p.length : Int) + 1 + 1) := by
  have hl2 : (p ++ x :: y :: s).length = p.length + 2 + s.length := by simp; omega
  have e1 : wrap64 ((p.length : Int) + 1 - 1) = (p.length : Int) := by rw [wr ⟨by omega, by omega⟩]; omega
  have e2 : rd_L2 ((p ++ x :: y :: s).map ql) ((p.length : Int) + 1) = ql y := by
    have := rdQ_app (p ++ [x]) s y
    rw [len_snoc, ← app_snoc] at this
    exact this
  simp only [gangsawref40_Check.l4]
  rw [e1, rdQ_app, e2, lenQ, hl2]
  rw [if_pos (by omega), if_pos (by omega), if_pos (by omega), if_pos (by rw [ql4]; decide), if_pos (by omega), if_pos (by omega), if_pos (by rw [ql4]; decide)]
  rw [if_pos (show (2 : Int) < ((ql x).length : Int) by rw [ql4]; decide), if_pos (show (3 : Int) < ((ql y).length : Int) by rw [ql4]; decide)]
  rw [neqb, neqb, wr (x := (p.length : Int) + 1 + 1) ⟨by omega, by omega⟩]
  rfl
theorem rc4_ev (R : Int) : ∀ (s : List Q) (x : Q) (p : List Q), (p ++ x :: s).length < 1000 → Ev (fun k => gangsawref40_Check.l4 k ((p ++ x :: s).map ql) ((p ++ x :: s).length : Int) ((p ++ x :: s).length : Int)) R →
    Ev (fun k => gangsawref40_Check.l4 k ((p ++ x :: s).map ql) ((p ++ x :: s).length : Int) ((p.length : Int) + 1)) (if jt x s = true then R else 10)
  | [], x, p, hl, h => by
    rw [show ((p.length : Int) + 1) = ((p ++ [x]).length : Int) by simp]
    exact h
  | y :: s, x, p, hl, h => by
    have ih := rc4_ev R s y (p ++ [x]) (by rw [← app_snoc]; exact hl) (by rw [← app_snoc]; exact h)
    rw [← app_snoc, len_snoc] at ih
    refine Ev.step (fun k => rc4_step p s x y k _ rfl hl) ?_
    rw [jt]
    cases c1 : S46.eqb x.b y.a with
    | true =>
      cases c2 : S46.eqb x.c y.d with
      | true =>
        simp only [Bool.not_true, Bool.false_eq_true, if_false, Bool.and_self, Bool.true_and]
        exact ih
      | false =>
        simp only [Bool.not_true, Bool.not_false, Bool.false_eq_true, if_false, if_true, Bool.and_false, Bool.false_and]
        exact Ev.now _
    | false =>
      simp only [Bool.not_false, Bool.false_eq_true, if_false, if_true, Bool.false_and]
      exact Ev.now _
theorem rdQ_in (p : List Q) (x : Q) (s t : List Q) : rd_L2 (((p ++ x :: s) ++ t).map ql) (p.length : Int) = ql x := by
  rw [List.append_assoc, List.cons_append]; exact rdQ_app p _ x
theorem rc6_ev (x : Q) (t : List Q) (n R : Int) : ∀ (s p : List Q), (p ++ s ++ x :: t).length < 1000 → Ev (fun k => gangsawref40_Check.l5 k ((p ++ s ++ x :: t).map ql) n (((p ++ s).length : Int) + 1)) R →
    Ev (fun k => gangsawref40_Check.l6 k ((p ++ s ++ x :: t).map ql) n ((p ++ s).length : Int) (p.length : Int)) (if clr x s = true then R else 11)
  | [], p, hl, h => by
    have hl2 : (p ++ [] ++ x :: t).length = p.length + 1 + t.length := by simp; omega
    refine Ev.step (fun k => by simp only [gangsawref40_Check.l6]; rw [if_neg (by simp)]) ?_
    have e : wrap64 (((p ++ ([] : List Q)).length : Int) + 1) = ((p ++ ([] : List Q)).length : Int) + 1 := wr ⟨by omega, by simp; omega⟩
    rw [e]
    exact h
  | y :: s, p, hl, h => by
    have hl2 : (p ++ y :: s ++ x :: t).length = p.length + 2 + s.length + t.length := by simp; omega
    have hl3 : (p ++ y :: s).length = p.length + 1 + s.length := by simp; omega
    have ih := rc6_ev x t n R s (p ++ [y]) (by rw [← app_snoc]; exact hl) (by rw [← app_snoc]; exact h)
    rw [← app_snoc, len_snoc] at ih
    refine Ev.step (f := fun k => (gangsawref40_separated.f k (ql x) (ql y)).bind fun u => if u = true then gangsawref40_Check.l6 k ((p ++ y :: s ++ x :: t).map ql) n ((p ++ y :: s).length : Int) ((p.length : Int) + 1) else (gangsawref40_separated.f k (ql y) (ql x)).bind fun u => if u = true then gangsawref40_Check.l6 k ((p ++ y :: s ++ x :: t).map ql) n ((p ++ y :: s).length : Int) ((p.length : Int) + 1) else some 11) (fun k => ?_) ?_
    · simp only [gangsawref40_Check.l6]
      rw [rdQ_in, rdQ_app (p ++ y :: s) t x, lenQ, hl2, hl3, if_pos (by omega), if_pos (by omega), if_pos (by omega), if_pos (by omega), if_pos (by omega), wr (x := (p.length : Int) + 1) ⟨by omega, by omega⟩]
    · refine Ev.bind (f := fun k u => if u = true then gangsawref40_Check.l6 k ((p ++ y :: s ++ x :: t).map ql) n ((p ++ y :: s).length : Int) ((p.length : Int) + 1) else (gangsawref40_separated.f k (ql y) (ql x)).bind fun u => if u = true then gangsawref40_Check.l6 k ((p ++ y :: s ++ x :: t).map ql) n ((p ++ y :: s).length : Int) ((p.length : Int) + 1) else some 11) (Ev.late 25 fun k => sep_f x y k) ?_
      unfold clr at ih ⊢
      rw [List.all_cons]
      cases c1 : sp x y with
      | true => simp only [if_true, Bool.true_or, Bool.true_and]; exact ih
      | false =>
        simp only [Bool.false_or, Bool.false_eq_true, if_false]
        refine Ev.bind (f := fun k u => if u = true then gangsawref40_Check.l6 k ((p ++ y :: s ++ x :: t).map ql) n ((p ++ y :: s).length : Int) ((p.length : Int) + 1) else some 11) (Ev.late 25 fun k => sep_f y x k) ?_
        cases c2 : sp y x with
        | true => simp only [if_true, Bool.true_and]; exact ih
        | false => simp only [Bool.false_and, Bool.false_eq_true, if_false]; exact Ev.now _
theorem rc5_ev : ∀ (s p : List Q), (p ++ s).length < 1000 → Ev (fun k => gangsawref40_Check.l5 k ((p ++ s).map ql) ((p ++ s).length : Int) (p.length : Int)) (if ovs p s = true then 0 else 11)
  | [], p, hl => by
    refine Ev.const1 (fun k => ?_)
    simp only [gangsawref40_Check.l5]
    rw [if_neg (by simp)]
    rfl
  | x :: s, p, hl => by
    have hl2 : (p ++ x :: s).length = p.length + 1 + s.length := by simp; omega
    have ih := rc5_ev s (p ++ [x]) (by rw [← app_snoc]; exact hl)
    rw [← app_snoc, len_snoc] at ih
    refine Ev.step (f := fun k => gangsawref40_Check.l6 k ((p ++ x :: s).map ql) ((p ++ x :: s).length : Int) (p.length : Int) 0) (fun k => ?_) ?_
    · simp only [gangsawref40_Check.l5]
      rw [if_pos (len_app p s x)]
    · have := rc6_ev x s ((p ++ x :: s).length : Int) _ p [] (by simpa using hl) (by simpa using ih)
      refine Ev.eq this ?_
      rw [ovs]
      cases clr x p <;> simp
theorem rckj_ev (x : Q) (s : List Q) (hl : (x :: s).length < 1000) : Ev (fun k => gangsawref40_Check.l4 k ((x :: s).map ql) ((x :: s).length : Int) 1) (ckj (x :: s)) := by
  have hl2 : (x :: s).length = s.length + 1 := by simp
  have h := rc4_ev (if ends x s = true then (if ovs [] (x :: s) = true then 0 else 11) else 8) s x [] hl ?_
  · exact h
  · refine Ev.step (f := fun k => if x.a.f1 = (lastQ x s).b.f1 then gangsawref40_Check.j5 k ((x :: s).map ql) ((x :: s).length : Int) (decide (x.a.f0 ≥ (lastQ x s).b.f0)) else gangsawref40_Check.j5 k ((x :: s).map ql) ((x :: s).length : Int) true) (fun k => ?_) ?_
    · have e : wrap64 (((x :: s).length : Int) - 1) = (s.length : Int) := by rw [hl2, wr ⟨by omega, by omega⟩]; omega
      simp only [gangsawref40_Check.l4, List.nil_append]
      have e0 : rd_L2 ((x :: s).map ql) 0 = ql x := rdQ_app [] s x
      rw [if_neg (by omega)]
      simp only [e, rdQ_last, e0, lenQ]
      rw [if_pos (by omega), if_pos (by rw [ql4]; decide), if_pos (by omega), if_pos (by omega), if_pos (by rw [ql4]; decide)]
      rfl
    · have key : ∀ b : Bool, Ev (fun k => gangsawref40_Check.j5 k ((x :: s).map ql) ((x :: s).length : Int) b) (if b = true then 8 else if ovs [] (x :: s) = true then 0 else 11) := fun b => by
        refine Ev.step (f := fun k => if b = true then some 8 else gangsawref40_Check.l5 k ((x :: s).map ql) ((x :: s).length : Int) 0) (fun k => by simp only [gangsawref40_Check.j5]) ?_
        cases b with
        | true => exact Ev.now _
        | false => exact rc5_ev (x :: s) [] hl
      unfold ends
      by_cases c : x.a.f1 = (lastQ x s).b.f1
      · simp only [if_pos c, decide_eq_true c, Bool.true_and]
        refine Ev.eq (key _) ?_
        by_cases c2 : x.a.f0 ≥ (lastQ x s).b.f0 <;> simp [c2]
      · simp only [if_neg c, decide_eq_false c, Bool.false_and]
        exact key true
theorem rCheck_ev (l : List (List S46)) (hl : l.length < 1000) : Ev (fun k => gangsawref40_Check.f k l) (ck l) := by
  unfold ck
  by_cases h7 : (l.length : Int) > 64
  · rw [if_pos h7]
    exact Ev.const (fun k => by unfold gangsawref40_Check.f; rw [if_pos h7])
  rw [if_neg h7]
  by_cases h0 : (l.length : Int) = 0
  · rw [if_pos h0]
    exact Ev.const (fun k => by unfold gangsawref40_Check.f; rw [if_neg h7, if_pos h0])
  rw [if_neg h0]
  refine Ev.congr (f := fun k => gangsawref40_Check.l0 k l (l.length : Int) 0) (fun k => by unfold gangsawref40_Check.f; rw [if_neg h7, if_neg h0]) ?_
  by_cases h4 : l.any (fun v => (v.length : Int) != 4) = true
  · have h2 : ∀ (s p : List (List S46)), (p ++ s).length < 1000 → s.any (fun v => (v.length : Int) != 4) = true → Ev (fun k => gangsawref40_Check.l0 k (p ++ s) ((p ++ s).length : Int) (p.length : Int)) 1 := fun s => by
      induction s with
      | nil => intro p _ h; cases h
      | cons x s ih =>
        intro p hl h
        have hl2 : (p ++ x :: s).length = p.length + 1 + s.length := by simp; omega
        refine Ev.step (f := fun k => if (x.length : Int) = 4 then gangsawref40_Check.l0 k (p ++ x :: s) ((p ++ x :: s).length : Int) ((p.length : Int) + 1) else some 1) (fun k => ?_) ?_
        · simp only [gangsawref40_Check.l0]
          rw [if_pos (len_app p s x), if_pos (by omega), if_pos (len_app p s x), rdL_app, wr (x := (p.length : Int) + 1) ⟨by omega, by omega⟩]
        · by_cases c : (x.length : Int) = 4
          · simp only [if_pos c]
            have := ih (p ++ [x]) (by rw [← app_snoc]; exact hl) (by simpa [c] using h)
            rw [← app_snoc, len_snoc] at this
            exact this
          · simp only [if_neg c]
            exact Ev.now _
    rw [if_pos h4]
    exact h2 l [] hl h4
  rw [if_neg h4]
  replace h4 := Bool.eq_false_iff.2 h4
  have hq := qs_of l h4
  generalize l.map toQ = qs at hq
  subst hq
  simp only [List.length_map] at hl h0 h7
  have h3 := rc0_ev (ckq qs) (qs.map ql) [] (by simpa using hl) ?_
  · rw [h4] at h3
    exact h3
  · unfold ckq
    rw [List.nil_append, lenQ]
    refine rc1_ev _ qs [] hl (rc3_ev _ qs [] hl ?_)
    cases qs with
    | nil => exact absurd rfl h0
    | cons x s => exact rckj_ev x s hl

structure Ok (x : Q) (s : List Q) : Prop where
  n64 : (x :: s).length ≤ 64
  near : ∀ q ∈ x :: s, ∀ p ∈ ql q, farB p = false
  conv : ∀ q ∈ x :: s, cv q = true
  join : jt x s = true
  ends : ends x s = true
  over : ovs [] (x :: s) = true
theorem ok_ck {x : Q} {s : List Q} (h : Ok x s) : ck ((x :: s).map ql) = 0 := by
  unfold ck
  rw [if_neg (by rw [lenQ]; have := h.n64; omega), if_neg (by rw [lenQ]; simp; omega), ql_any, if_neg (by decide)]
  rw [show ((x :: s).map ql).map toQ = x :: s by rw [List.map_map]; exact List.map_id' _]
  unfold ckq
  rw [if_neg, if_neg]
  · rw [ckj, h.join, h.ends, h.over]
    rfl
  · rw [Bool.not_eq_true, List.any_eq_false]
    intro q hq
    rw [h.conv q hq]; decide
  · rw [Bool.not_eq_true, List.any_eq_false]
    intro q hq
    rw [Bool.not_eq_true, List.any_eq_false]
    intro p hp
    rw [h.near q hq p hp]; decide
theorem ok_of {l : List (List S46)} (h : ck l = 0) : ∃ x s, l = (x :: s).map ql ∧ Ok x s := by
  unfold ck at h
  split at h
  · cases h
  rename_i h7
  split at h
  · cases h
  rename_i h0
  split at h
  · cases h
  rename_i h4
  have hq := qs_of l (Bool.eq_false_iff.2 h4)
  generalize l.map toQ = qs at hq h
  subst hq
  unfold ckq at h
  split at h
  · cases h
  rename_i hf
  split at h
  · cases h
  rename_i hc
  cases qs with
  | nil => exact absurd rfl h0
  | cons x s =>
    refine ⟨x, s, rfl, ?_⟩
    rw [ckj] at h
    split at h
    · rename_i h1
      split at h
      · rename_i h2
        split at h
        · rename_i h3
          rw [Bool.not_eq_true, List.any_eq_false] at hf hc
          refine ⟨by rw [lenQ] at h7; omega, fun q hq p hp => ?_, fun q hq => ?_, h1, h2, h3⟩
          · have := hf q hq
            rw [Bool.not_eq_true, List.any_eq_false] at this
            exact Bool.eq_false_iff.2 (this p hp)
          · have := hc q hq
            cases hv : cv q with
            | true => rfl
            | false => rw [hv] at this; exact absurd rfl this
        · cases h
      · cases h
    · cases h
theorem near_of {p : S46} (h : farB p = false) : (-1000000 ≤ p.f0 ∧ p.f0 ≤ 1000000) ∧ (-1000000 ≤ p.f1 ∧ p.f1 ≤ 1000000) := by
  unfold farB at h
  simp only [Bool.or_eq_false_iff, decide_eq_false_iff_not] at h
  omega
structure NQ (q : Q) : Prop where
  a : (-1000000 ≤ q.a.f0 ∧ q.a.f0 ≤ 1000000) ∧ (-1000000 ≤ q.a.f1 ∧ q.a.f1 ≤ 1000000)
  b : (-1000000 ≤ q.b.f0 ∧ q.b.f0 ≤ 1000000) ∧ (-1000000 ≤ q.b.f1 ∧ q.b.f1 ≤ 1000000)
  c : (-1000000 ≤ q.c.f0 ∧ q.c.f0 ≤ 1000000) ∧ (-1000000 ≤ q.c.f1 ∧ q.c.f1 ≤ 1000000)
  d : (-1000000 ≤ q.d.f0 ∧ q.d.f0 ≤ 1000000) ∧ (-1000000 ≤ q.d.f1 ∧ q.d.f1 ≤ 1000000)
theorem Ok.nq {x : Q} {s : List Q} (h : Ok x s) (q : Q) (hq : q ∈ x :: s) : NQ q :=
  ⟨near_of (h.near q hq _ (by simp [ql])), near_of (h.near q hq _ (by simp [ql])), near_of (h.near q hq _ (by simp [ql])), near_of (h.near q hq _ (by simp [ql]))⟩
def eqLn : List S46 → List S46 → Bool
  | [], [] => true
  | x :: a, y :: b => S46.eqb x y && eqLn a b
  | _, _ => false
theorem eqLn_iff : ∀ (a b : List S46), eqLn a b = true ↔ a = b
  | [], [] => by simp [eqLn]
  | [], _ :: _ => by simp [eqLn]
  | _ :: _, [] => by simp [eqLn]
  | x :: a, y :: b => by simp [eqLn, S46.eqb_iff, eqLn_iff a b]
theorem eqLn_len : ∀ (a b : List S46), a.length ≠ b.length → eqLn a b = false
  | a, b, h => Bool.eq_false_iff.2 fun e => h (by rw [(eqLn_iff a b).1 e])
def eqLL : List (List S46) → List (List S46) → Bool
  | [], [] => true
  | x :: a, y :: b => eqLn x y && eqLL a b
  | _, _ => false
theorem eqLL_iff : ∀ (a b : List (List S46)), eqLL a b = true ↔ a = b
  | [], [] => by simp [eqLL]
  | [], _ :: _ => by simp [eqLL]
  | _ :: _, [] => by simp [eqLL]
  | x :: a, y :: b => by simp [eqLL, eqLn_iff, eqLL_iff a b]
theorem eqLL_len : ∀ (a b : List (List S46)), a.length ≠ b.length → eqLL a b = false
  | a, b, h => Bool.eq_false_iff.2 fun e => h (by rw [(eqLL_iff a b).1 e])
theorem sameLine0 : ∀ (s s' p p' : List S46), p.length = p'.length → s.length = s'.length → (p ++ s).length < 1000000 → Ev (fun k => gangsawref40_SameLine.l0 k (p ++ s) (p' ++ s') (p.length : Int)) (eqLn s s')
  | [], [], p, p', _, _, _ => Ev.const1 (fun k => by simp only [gangsawref40_SameLine.l0]; rw [if_neg (by simp)]; rfl)
  | x :: s, y :: s', p, p', h1, h2, hl => by
    have hl2 : (p ++ x :: s).length = p.length + 1 + s.length := by simp; omega
    have hl3 : (p' ++ y :: s').length = p'.length + 1 + s'.length := by simp; omega
    have hs : s.length = s'.length := by simpa using h2
    have ih := sameLine0 s s' (p ++ [x]) (p' ++ [y]) (by simp [h1]) hs (by rw [← app_snoc]; exact hl)
    rw [← app_snoc, ← app_snoc, len_snoc] at ih
    refine Ev.step (f := fun k => if (!S46.eqb x y) = true then some false else gangsawref40_SameLine.l0 k (p ++ x :: s) (p' ++ y :: s') ((p.length : Int) + 1)) (fun k => ?_) ?_
    · have e2 : rd_T46 (p' ++ y :: s') (p.length : Int) = y := by rw [h1]; exact rdT_app p' s' y
      simp only [gangsawref40_SameLine.l0]
      rw [rdT_app, e2, hl2, hl3, if_pos (by omega), if_pos (by omega), if_pos (by omega), neqb, wr (x := (p.length : Int) + 1) ⟨by omega, by omega⟩]
    · rw [eqLn]
      cases S46.eqb x y with
      | true => simp only [Bool.not_true, Bool.false_eq_true, if_false, Bool.true_and]; exact ih
      | false => simp only [Bool.not_false, if_true, Bool.false_and]; exact Ev.now _
theorem SameLine_ev (a b : List S46) (h : a.length < 1000000) : Ev (fun k => gangsawref40_SameLine.f k a b) (eqLn a b) := by
  by_cases c : (a.length : Int) = (b.length : Int)
  · exact Ev.congr (f := fun k => gangsawref40_SameLine.l0 k a b 0) (fun k => by unfold gangsawref40_SameLine.f; rw [if_pos c]) (sameLine0 a b [] [] rfl (by omega) h)
  · rw [eqLn_len a b (by omega)]
    exact Ev.const (fun k => by unfold gangsawref40_SameLine.f; rw [if_neg c])
theorem same0 : ∀ (s s' p p' : List (List S46)), p.length = p'.length → s.length = s'.length → (p ++ s).length < 1000000 → (∀ x ∈ s, x.length < 1000000) → Ev (fun k => gangsawref40_Same.l0 k (p ++ s) (p' ++ s') (p.length : Int)) (eqLL s s')
  | [], [], p, p', _, _, _, _ => Ev.const1 (fun k => by simp only [gangsawref40_Same.l0]; rw [if_neg (by simp)]; rfl)
  | x :: s, y :: s', p, p', h1, h2, hl, hx => by
    have hl2 : (p ++ x :: s).length = p.length + 1 + s.length := by simp; omega
    have hl3 : (p' ++ y :: s').length = p'.length + 1 + s'.length := by simp; omega
    have hs : s.length = s'.length := by simpa using h2
    have ih := same0 s s' (p ++ [x]) (p' ++ [y]) (by simp [h1]) hs (by rw [← app_snoc]; exact hl) (fun z hz => hx z (List.mem_cons_of_mem _ hz))
    rw [← app_snoc, ← app_snoc, len_snoc] at ih
    refine Ev.step (f := fun k => (gangsawref40_SameLine.f k x y).bind fun t => if t = true then gangsawref40_Same.l0 k (p ++ x :: s) (p' ++ y :: s') ((p.length : Int) + 1) else some false) (fun k => ?_) ?_
    · have e2 : rd_L2 (p' ++ y :: s') (p.length : Int) = y := by rw [h1]; exact rdL_app p' s' y
      simp only [gangsawref40_Same.l0]
      rw [rdL_app, e2, hl2, hl3, if_pos (by omega), if_pos (by omega), if_pos (by omega), wr (x := (p.length : Int) + 1) ⟨by omega, by omega⟩]
    · refine Ev.bind (f := fun k t => if t = true then gangsawref40_Same.l0 k (p ++ x :: s) (p' ++ y :: s') ((p.length : Int) + 1) else some false) (SameLine_ev x y (hx x List.mem_cons_self)) ?_
      rw [eqLL]
      cases eqLn x y with
      | true => simp only [if_true, Bool.true_and]; exact ih
      | false => simp only [Bool.false_eq_true, if_false, Bool.false_and]; exact Ev.now _
theorem Same_ev (a b : List (List S46)) (h : a.length < 1000000) (hx : ∀ x ∈ a, x.length < 1000000) : Ev (fun k => gangsawref40_Same.f k a b) (eqLL a b) := by
  by_cases c : (a.length : Int) = (b.length : Int)
  · exact Ev.congr (f := fun k => gangsawref40_Same.l0 k a b 0) (fun k => by unfold gangsawref40_Same.f; rw [if_pos c]) (same0 a b [] [] rfl (by omega) h hx)
  · rw [eqLL_len a b (by omega)]
    exact Ev.const (fun k => by unfold gangsawref40_Same.f; rw [if_neg c])
theorem equal0 : ∀ (s s' p p' : List S46) (n : Int), n = ((p ++ s).length : Int) → p.length = p'.length → s.length = s'.length → (p ++ s).length < 1000000 → Ev (fun k => api_Point_65.l0 k (p ++ s) (p' ++ s') n (p.length : Int)) (eqLn s s')
  | [], [], p, p', n, hn, _, _, _ => Ev.const1 (fun k => by simp only [api_Point_65.l0]; rw [if_neg (by rw [hn]; simp)]; rfl)
  | x :: s, y :: s', p, p', n, hn, h1, h2, hl => by
    have hl2 : (p ++ x :: s).length = p.length + 1 + s.length := by simp; omega
    have hl3 : (p' ++ y :: s').length = p'.length + 1 + s'.length := by simp; omega
    have hs : s.length = s'.length := by simpa using h2
    have ih := equal0 s s' (p ++ [x]) (p' ++ [y]) n (by rw [← app_snoc]; exact hn) (by simp [h1]) hs (by rw [← app_snoc]; exact hl)
    rw [← app_snoc, ← app_snoc, len_snoc] at ih
    refine Ev.step (f := fun k => if (!S46.eqb x y) = true then some false else api_Point_65.l0 k (p ++ x :: s) (p' ++ y :: s') n ((p.length : Int) + 1)) (fun k => ?_) ?_
    · have e2 : rd_T46 (p' ++ y :: s') (p.length : Int) = y := by rw [h1]; exact rdT_app p' s' y
      simp only [api_Point_65.l0]
      rw [rdT_app, e2, hl3, if_pos (by rw [hn, hl2]; omega), if_pos (by omega), hl2, if_pos (by omega), if_pos (by omega), neqb, wr (x := (p.length : Int) + 1) ⟨by omega, by omega⟩]
    · rw [eqLn]
      cases S46.eqb x y with
      | true => simp only [Bool.not_true, Bool.false_eq_true, if_false, Bool.true_and]; exact ih
      | false => simp only [Bool.not_false, if_true, Bool.false_and]; exact Ev.now _
theorem same_ev (a b : List S46) (h : a.length < 1000000) : Ev (fun k => arch_same.f k a b) (eqLn a b) := by
  refine Ev.bind (f := fun _ t => some t) (g := fun k => api_Point_65.f k a b) ?_ (Ev.now _)
  by_cases c : (a.length : Int) = (b.length : Int)
  · exact Ev.congr (f := fun k => api_Point_65.l0 k a b (a.length : Int) 0) (fun k => by unfold api_Point_65.f; rw [if_pos c]) (equal0 a b [] [] _ rfl rfl (by omega) h)
  · rw [eqLn_len a b (by omega)]
    exact Ev.const (fun k => by unfold api_Point_65.f; rw [if_neg c])
def fq (S : Int) (q : Q) : Q := ⟨⟨wrap64 (S - q.b.f0), q.b.f1⟩, ⟨wrap64 (S - q.a.f0), q.a.f1⟩, ⟨wrap64 (S - q.d.f0), q.d.f1⟩, ⟨wrap64 (S - q.c.f0), q.c.f1⟩⟩
theorem flip_f (S : Int) (q : Q) (k : Nat) : arch_flip.f (k + 5) (ql q) S = some (ql (fq S q)) := by kernel_rfl
theorem rflip_f (S : Int) (q : Q) (k : Nat) : gangsawref40_flip.f (k + 5) (ql q) S = some (ql (fq S q)) := by kernel_rfl
theorem mir_ev (S : Int) : ∀ qs : List Q, Ev (fun k => mir k S (qs.map ql)) ((qs.map (fq S)).map ql)
  | [] => Ev.const fun _ => rfl
  | q :: qs => by
    refine Ev.congr (f := fun k => (arch_flip.f k (ql q) S).bind fun r => (mir k S (qs.map ql)).bind fun rs => some (r :: rs)) (fun _ => rfl) ?_
    refine Ev.bind (f := fun k r => (mir k S (qs.map ql)).bind fun rs => some (r :: rs)) (Ev.late 5 fun k => flip_f S q k) ?_
    exact Ev.bind (f := fun _ rs => some (ql (fq S q) :: rs)) (mir_ev S qs) (Ev.now _)
def sumX (x : Q) (s : List Q) : Int := wrap64 (x.a.f0 + (lastQ x s).b.f0)
def mirQ (x : Q) (s : List Q) : List Q := ((x :: s).map (fq (sumX x s))).reverse
theorem mirror_ev (x : Q) (s : List Q) (hl : (x :: s).length < 1000) : Ev (fun k => arch_mirror.f k ((x :: s).map ql)) ((mirQ x s).map ql) := by
  refine Ev.congr (f := fun k => mir k (sumX x s) ((x :: s).reverse.map ql)) (fun k => ?_) ?_
  · unfold arch_mirror.f
    rw [springings_f x s hl, Option.bind_some, if_pos (by rw [List.length_map]; exact hl), List.map_reverse]
    rfl
  · refine Ev.eq (mir_ev (sumX x s) (x :: s).reverse) ?_
    unfold mirQ
    rw [← List.map_reverse]
theorem rmir_ev (S : Int) : ∀ (p s : List Q) (acc : List (List S46)), (p ++ s).length < 1000 → acc.length + p.length < 2000 → Ev (fun k => gangsawref40_Mirror.l0 k ((p ++ s).map ql) S acc ((p.length : Int) - 1)) (acc ++ (p.reverse.map (fq S)).map ql) := by
  intro p
  induction hn : p.length generalizing p with
  | zero =>
    intro s acc _ _
    refine Ev.const1 (fun k => ?_)
    obtain rfl : p = [] := List.length_eq_zero_iff.1 hn
    simp only [gangsawref40_Mirror.l0]
    rw [if_neg (by decide)]
    simp
  | succ m ih =>
    intro s acc hl ha
    have hne : p ≠ [] := fun e => by rw [e] at hn; cases hn
    obtain ⟨p', x, rfl⟩ : ∃ p' x, p = p' ++ [x] := ⟨p.dropLast, p.getLast hne, (List.dropLast_concat_getLast hne).symm⟩
    have hm : p'.length = m := by simpa using hn
    have hl2 : (p' ++ [x] ++ s).length = m + 1 + s.length := by simp [hm]; omega
    have := ih p' hm (x :: s) (acc ++ [ql (fq S x)]) (by rw [app_snoc]; exact hl) (by simp; omega)
    refine Ev.step (f := fun k => (gangsawref40_flip.f k (ql x) S).bind fun t => gangsawref40_Mirror.l0 k ((p' ++ [x] ++ s).map ql) S (acc ++ [t]) ((m : Int) - 1)) (fun k => ?_) ?_
    · have e : ((m + 1 : Nat) : Int) - 1 = (p'.length : Int) := by omega
      simp only [gangsawref40_Mirror.l0]
      rw [e, rdQ_in p' x [] s, lenQ, hl2, if_pos (by omega), if_pos (by omega), if_pos (by omega)]
      simp only [if_pos (show acc.length < 5864062014805 by omega)]
      rw [wr (x := (p'.length : Int) - 1) ⟨by omega, by omega⟩, hm]
    · refine Ev.bind (f := fun k t => gangsawref40_Mirror.l0 k ((p' ++ [x] ++ s).map ql) S (acc ++ [t]) ((m : Int) - 1)) (Ev.late 5 fun k => rflip_f S x k) ?_
      rw [← app_snoc]
      refine Ev.eq this ?_
      simp
theorem rMirror_ev (x : Q) (s : List Q) (hl : (x :: s).length < 1000) : Ev (fun k => gangsawref40_Mirror.f k ((x :: s).map ql)) ((mirQ x s).map ql) := by
  have hl2 : (x :: s).length = s.length + 1 := by simp
  have e : wrap64 (((x :: s).length : Int) - 1) = (s.length : Int) := by rw [hl2, wr ⟨by omega, by omega⟩]; omega
  have e0 : rd_L2 ((x :: s).map ql) 0 = ql x := rdQ_app [] s x
  refine Ev.congr (f := fun k => gangsawref40_Mirror.l0 k ((x :: s).map ql) (sumX x s) [] (s.length : Int)) (fun k => ?_) ?_
  · unfold gangsawref40_Mirror.f
    simp only [lenQ, e, e0, rdQ_last]
    rw [if_pos (by omega), if_pos (by rw [ql4]; decide), if_pos (by omega), if_pos (by omega), if_pos (by rw [ql4]; decide)]
    rfl
  · have := rmir_ev (sumX x s) (x :: s) [] [] (by simpa using hl) (by simp; simp at hl; omega)
    simp only [List.append_nil, List.nil_append] at this
    rw [show (((x :: s).length : Int) - 1) = (s.length : Int) by omega] at this
    refine Ev.eq this ?_
    unfold mirQ
    rw [← List.map_reverse]

theorem awake300 : gangsawlaw40_awake.f 300 = some true := by decide +kernel
theorem awake_ev : Ev (fun k => gangsawlaw40_awake.f k) true := Ev.of (fun k => gangsawlaw40_awake.mono k) awake300
theorem awk {α : Type} {g : Nat → Bool → Option α} {r : α} (h : Ev (fun k => g k true) r) : Ev (fun k => (gangsawlaw40_awake.f k).bind fun t => g k t) r := Ev.bind (f := fun k t => g k t) awake_ev h
theorem awk1 : Ev (fun k => (gangsawlaw40_awake.f k).bind fun t => (some t : Option Bool)) true := awk (g := fun k t => some t) (Ev.now true)
def few (l : List (List S46)) : Bool := if (l.length : Int) > 70 then false else l.all fun v => decide (v.length ≤ 8)
theorem few0 : ∀ (s p : List (List S46)), (p ++ s).length < 1000 → Ev (fun k => gangsawref40_Few.l0 k (p ++ s) (p.length : Int)) (s.all fun v => decide (v.length ≤ 8))
  | [], p, _ => Ev.const1 (fun k => by simp only [gangsawref40_Few.l0]; rw [if_neg (by simp)]; rfl)
  | x :: s, p, hl => by
    have hl2 : (p ++ x :: s).length = p.length + 1 + s.length := by simp; omega
    have ih := few0 s (p ++ [x]) (by rw [← app_snoc]; exact hl)
    rw [← app_snoc, len_snoc] at ih
    refine Ev.step (f := fun k => if (x.length : Int) > 8 then some false else gangsawref40_Few.l0 k (p ++ x :: s) ((p.length : Int) + 1)) (fun k => ?_) ?_
    · simp only [gangsawref40_Few.l0]
      rw [rdL_app, hl2, if_pos (by omega), if_pos (by omega), wr (x := (p.length : Int) + 1) ⟨by omega, by omega⟩]
    · rw [List.all_cons]
      by_cases c : (x.length : Int) > 8
      · simp only [if_pos c, decide_eq_false (show ¬ x.length ≤ 8 by omega), Bool.false_and]; exact Ev.now _
      · simp only [if_neg c, decide_eq_true (show x.length ≤ 8 by omega), Bool.true_and]; exact ih
theorem Few_ev (l : List (List S46)) : Ev (fun k => gangsawref40_Few.f k l) (few l) := by
  unfold few
  by_cases c : (l.length : Int) > 70
  · rw [if_pos c]; exact Ev.const (fun k => by unfold gangsawref40_Few.f; rw [if_pos c])
  · rw [if_neg c]; exact Ev.congr (f := fun k => gangsawref40_Few.l0 k l 0) (fun k => by unfold gangsawref40_Few.f; rw [if_neg c]) (few0 l [] (by simp; omega))
theorem few_len {l : List (List S46)} (h : few l = true) : l.length ≤ 70 ∧ ∀ v ∈ l, v.length ≤ 8 := by
  unfold few at h
  split at h
  · cases h
  · refine ⟨by omega, fun v hv => ?_⟩
    have := List.all_eq_true.1 h v hv
    exact of_decide_eq_true this

theorem chk_bind {α : Type} {l : List (List S46)} (hl : l.length < 1000) {G : Nat → Option α} {D : Int → α} {r : α} (h0 : ck l = 0 → Ev G r) (h1 : ck l ≠ 0 → D (ck l) = r) : Ev (fun k => (arch_Check.f k l).bind fun t => if t = 0 then G k else some (D t)) r := by
  refine Ev.bind (f := fun k t => if t = 0 then G k else some (D t)) (Check_ev l hl) ?_
  by_cases c : ck l = 0
  · simp only [if_pos c]; exact h0 c
  · simp only [if_neg c, h1 c]; exact Ev.now _
theorem Ok.len {x : Q} {s : List Q} (h : Ok x s) : (x :: s).length < 1000 := by have := h.n64; omega
theorem Ok.len' {x : Q} {s : List Q} (h : Ok x s) : ((x :: s).map ql).length < 1000 := by rw [List.length_map]; exact h.len
theorem small_ql (l : List Q) : ∀ v ∈ l.map ql, v.length < 1000000 := by
  intro v hv
  obtain ⟨q, _, rfl⟩ := List.mem_map.1 hv
  show 4 < 1000000
  decide
def lx (q : Q) : Int := mn (mn (mn (mn q.a.f0 q.a.f0) q.b.f0) q.c.f0) q.d.f0
def ly (q : Q) : Int := mn (mn (mn (mn q.a.f1 q.a.f1) q.b.f1) q.c.f1) q.d.f1
def hx (q : Q) : Int := mx (mx (mx (mx q.a.f0 q.a.f0) q.b.f0) q.c.f0) q.d.f0
def tq (q : Q) : Q := ⟨⟨wrap64 (q.a.f0 - lx q), wrap64 (q.a.f1 - ly q)⟩, ⟨wrap64 (q.b.f0 - lx q), wrap64 (q.b.f1 - ly q)⟩, ⟨wrap64 (q.c.f0 - lx q), wrap64 (q.c.f1 - ly q)⟩, ⟨wrap64 (q.d.f0 - lx q), wrap64 (q.d.f1 - ly q)⟩⟩
def wq (q : Q) : Int := wrap64 (hx q - lx q)
theorem template_f (k : Nat) (q : Q) : arch_template.f k (ql q) = some (ql (tq q), wq q) := by
  unfold arch_template.f
  rw [if_pos ⟨show 0 < 4 by decide, show 4 < 1000 by decide⟩]
  rfl
theorem rtemplate_f (k : Nat) (q : Q) : gangsawref40_Template.f (k + 12) (ql q) = some (ql (tq q)) := by kernel_rfl
def w0 (t : Q) : Int := mx (mx (mx (mx 0 t.a.f0) t.b.f0) t.c.f0) t.d.f0
theorem rmirrored_f (k : Nat) (t : Q) : gangsawref40_mirrored.f (k + 12) (ql t) = some (ql (fq (w0 t) t)) := by kernel_rfl
theorem mn_le (a b : Int) : mn a b ≤ a ∧ mn a b ≤ b ∧ (mn a b = a ∨ mn a b = b) := by unfold mn; split <;> omega
theorem mx_ge (a b : Int) : a ≤ mx a b ∧ b ≤ mx a b ∧ (mx a b = a ∨ mx a b = b) := by unfold mx; split <;> omega
theorem lx_le (q : Q) : lx q ≤ q.a.f0 ∧ lx q ≤ q.b.f0 ∧ lx q ≤ q.c.f0 ∧ lx q ≤ q.d.f0 ∧ (lx q = q.a.f0 ∨ lx q = q.b.f0 ∨ lx q = q.c.f0 ∨ lx q = q.d.f0) := by
  unfold lx
  have h1 := mn_le q.a.f0 q.a.f0
  have h2 := mn_le (mn q.a.f0 q.a.f0) q.b.f0
  have h3 := mn_le (mn (mn q.a.f0 q.a.f0) q.b.f0) q.c.f0
  have h4 := mn_le (mn (mn (mn q.a.f0 q.a.f0) q.b.f0) q.c.f0) q.d.f0
  omega
theorem ly_le (q : Q) : ly q ≤ q.a.f1 ∧ ly q ≤ q.b.f1 ∧ ly q ≤ q.c.f1 ∧ ly q ≤ q.d.f1 ∧ (ly q = q.a.f1 ∨ ly q = q.b.f1 ∨ ly q = q.c.f1 ∨ ly q = q.d.f1) := by
  unfold ly
  have h1 := mn_le q.a.f1 q.a.f1
  have h2 := mn_le (mn q.a.f1 q.a.f1) q.b.f1
  have h3 := mn_le (mn (mn q.a.f1 q.a.f1) q.b.f1) q.c.f1
  have h4 := mn_le (mn (mn (mn q.a.f1 q.a.f1) q.b.f1) q.c.f1) q.d.f1
  omega
theorem hx_ge (q : Q) : q.a.f0 ≤ hx q ∧ q.b.f0 ≤ hx q ∧ q.c.f0 ≤ hx q ∧ q.d.f0 ≤ hx q ∧ (hx q = q.a.f0 ∨ hx q = q.b.f0 ∨ hx q = q.c.f0 ∨ hx q = q.d.f0) := by
  unfold hx
  have h1 := mx_ge q.a.f0 q.a.f0
  have h2 := mx_ge (mx q.a.f0 q.a.f0) q.b.f0
  have h3 := mx_ge (mx (mx q.a.f0 q.a.f0) q.b.f0) q.c.f0
  have h4 := mx_ge (mx (mx (mx q.a.f0 q.a.f0) q.b.f0) q.c.f0) q.d.f0
  omega
theorem w0_ge (t : Q) : 0 ≤ w0 t ∧ t.a.f0 ≤ w0 t ∧ t.b.f0 ≤ w0 t ∧ t.c.f0 ≤ w0 t ∧ t.d.f0 ≤ w0 t ∧ (w0 t = 0 ∨ w0 t = t.a.f0 ∨ w0 t = t.b.f0 ∨ w0 t = t.c.f0 ∨ w0 t = t.d.f0) := by
  unfold w0
  have h1 := mx_ge 0 t.a.f0
  have h2 := mx_ge (mx 0 t.a.f0) t.b.f0
  have h3 := mx_ge (mx (mx 0 t.a.f0) t.b.f0) t.c.f0
  have h4 := mx_ge (mx (mx (mx 0 t.a.f0) t.b.f0) t.c.f0) t.d.f0
  omega
theorem lx_rng {q : Q} (h : NQ q) : -1000000 ≤ lx q ∧ lx q ≤ 1000000 := by have := lx_le q; have := h.a.1; have := h.b.1; have := h.c.1; have := h.d.1; omega
theorem ly_rng {q : Q} (h : NQ q) : -1000000 ≤ ly q ∧ ly q ≤ 1000000 := by have := ly_le q; have := h.a.2; have := h.b.2; have := h.c.2; have := h.d.2; omega
theorem hx_rng {q : Q} (h : NQ q) : -1000000 ≤ hx q ∧ hx q ≤ 1000000 := by have := hx_ge q; have := h.a.1; have := h.b.1; have := h.c.1; have := h.d.1; omega
def tp (q : Q) : Q := ⟨⟨q.a.f0 - lx q, q.a.f1 - ly q⟩, ⟨q.b.f0 - lx q, q.b.f1 - ly q⟩, ⟨q.c.f0 - lx q, q.c.f1 - ly q⟩, ⟨q.d.f0 - lx q, q.d.f1 - ly q⟩⟩
theorem tq_tp {q : Q} (h : NQ q) : tq q = tp q := by
  have h1 := lx_rng h
  have h2 := ly_rng h
  have ha := h.a
  have hb := h.b
  have hc := h.c
  have hd := h.d
  unfold tq tp
  rw [wr (x := q.a.f0 - lx q) ⟨by omega, by omega⟩, wr (x := q.a.f1 - ly q) ⟨by omega, by omega⟩, wr (x := q.b.f0 - lx q) ⟨by omega, by omega⟩, wr (x := q.b.f1 - ly q) ⟨by omega, by omega⟩, wr (x := q.c.f0 - lx q) ⟨by omega, by omega⟩, wr (x := q.c.f1 - ly q) ⟨by omega, by omega⟩, wr (x := q.d.f0 - lx q) ⟨by omega, by omega⟩, wr (x := q.d.f1 - ly q) ⟨by omega, by omega⟩]
theorem wq_eq {q : Q} (h : NQ q) : wq q = hx q - lx q := by
  have h1 := lx_rng h
  have h2 := hx_rng h
  unfold wq
  exact wr ⟨by omega, by omega⟩
theorem w0_tq {q : Q} (h : NQ q) : w0 (tq q) = wq q := by
  rw [tq_tp h, wq_eq h]
  have h1 : 0 ≤ w0 (tp q) ∧ q.a.f0 - lx q ≤ w0 (tp q) ∧ q.b.f0 - lx q ≤ w0 (tp q) ∧ q.c.f0 - lx q ≤ w0 (tp q) ∧ q.d.f0 - lx q ≤ w0 (tp q) ∧ (w0 (tp q) = 0 ∨ w0 (tp q) = q.a.f0 - lx q ∨ w0 (tp q) = q.b.f0 - lx q ∨ w0 (tp q) = q.c.f0 - lx q ∨ w0 (tp q) = q.d.f0 - lx q) := w0_ge (tp q)
  have h2 := hx_ge q
  have h3 := lx_le q
  omega
def sim (v w : Q) : Bool := eqLn (ql (tq v)) (ql (tq w)) || eqLn (ql (tq v)) (ql (fq (wq w) (tq w)))
theorem sim_self (v : Q) : sim v v = true := by
  unfold sim
  rw [(eqLn_iff _ _).2 rfl]
  rfl
def kinds (qs : List Q) : List Int := qs.map fun v => fst (sim v) 0 qs
theorem kinds1_ev (v w : Q) : Ev (fun k => arch_Kinds_1.f k (ql w) (ql (tq v))) (sim v w) := by
  refine Ev.congr (f := fun k => (arch_same.f k (ql (tq v)) (ql (tq w))).bind fun t => if t = true then some true else (arch_flip.f k (ql (tq w)) (wq w)).bind fun u => (arch_same.f k (ql (tq v)) u).bind fun t => some t) (fun k => by unfold arch_Kinds_1.f; rw [template_f]; rfl) ?_
  refine Ev.bind (f := fun k t => if t = true then some true else (arch_flip.f k (ql (tq w)) (wq w)).bind fun u => (arch_same.f k (ql (tq v)) u).bind fun t => some t) (same_ev _ _ (show 4 < 1000000 by decide)) ?_
  unfold sim
  cases eqLn (ql (tq v)) (ql (tq w)) with
  | true => simp only [if_true, Bool.true_or]; exact Ev.now _
  | false =>
    simp only [Bool.false_eq_true, if_false, Bool.false_or]
    refine Ev.bind (f := fun k u => (arch_same.f k (ql (tq v)) u).bind fun t => some t) (Ev.late 5 fun k => flip_f (wq w) (tq w) k) ?_
    exact Ev.bind (f := fun k t => some t) (same_ev _ _ (show 4 < 1000000 by decide)) (Ev.now _)
theorem fst_map {α β : Type} (g : α → β) (P : β → Bool) : ∀ (s : List α) (i : Int), fst P i (s.map g) = fst (fun a => P (g a)) i s
  | [], _ => rfl
  | x :: s, i => by rw [List.map_cons, fst, fst, fst_map g P s]
theorem kindix_ev (qs : List Q) (v : Q) (hl : qs.length < 1000) : Ev (fun k => api_Polygon_50_by_arch_Kinds_1.f k (qs.map ql) (ql (tq v))) (fst (sim v) 0 qs) := by
  have := ix_ev (fun k xs n i => api_Polygon_50_by_arch_Kinds_1.l0 k xs n i (ql (tq v))) (fun k w => arch_Kinds_1.f k w (ql (tq v))) rd_L2 rdL_app (fun _ _ _ _ => rfl) (fun w => sim v (toQ w)) (qs.map ql) [] (fun w hw => by
    obtain ⟨q, _, rfl⟩ := List.mem_map.1 hw
    exact kinds1_ev v q) (by simp; omega)
  refine Ev.eq this ?_
  rw [fst_map]
  rfl
theorem kinds0 (qs : List Q) (hq : qs.length < 1000) : ∀ (s p : List Q) (out : List Int), qs = p ++ s → out.length = p.length → Ev (fun k => arch_Kinds.l0 k (qs.map ql) out (qs.map ql) (qs.length : Int) (p.length : Int)) (out ++ s.map (fun v => fst (sim v) 0 qs), 0)
  | [], p, out, h, ho => Ev.const1 (fun k => by simp only [arch_Kinds.l0]; rw [if_neg (by rw [h]; simp)]; simp)
  | x :: s, p, out, h, ho => by
    have hl2 : qs.length = p.length + 1 + s.length := by rw [h]; simp; omega
    have ih := kinds0 qs hq s (p ++ [x]) (out ++ [fst (sim x) 0 qs]) (by rw [← app_snoc]; exact h) (by simp [ho])
    rw [len_snoc] at ih
    refine Ev.step (f := fun k => (api_Polygon_50_by_arch_Kinds_1.f k (qs.map ql) (ql (tq x))).bind fun t => arch_Kinds.l0 k (qs.map ql) (out ++ [t]) (qs.map ql) (qs.length : Int) ((p.length : Int) + 1)) (fun k => ?_) ?_
    · have ex : rd_L2 (qs.map ql) (p.length : Int) = ql x := by rw [h]; exact rdQ_app p s x
      simp only [arch_Kinds.l0]
      rw [ex, template_f, lenQ, hl2, if_pos (by omega), if_pos (by omega), if_pos (by omega), wrn _ (by omega)]
      simp only [if_pos (show out.length < 17592186044416 by omega)]
      rfl
    · refine Ev.bind (f := fun k t => arch_Kinds.l0 k (qs.map ql) (out ++ [t]) (qs.map ql) (qs.length : Int) ((p.length : Int) + 1)) (kindix_ev qs x hq) ?_
      refine Ev.eq ih ?_
      simp
theorem Kinds_ev {x : Q} {s : List Q} (h : Ok x s) : Ev (fun k => arch_Kinds.f k ((x :: s).map ql)) (kinds (x :: s), 0) := by
  refine chk_bind (G := fun k => arch_Kinds.l0 k ((x :: s).map ql) [] ((x :: s).map ql) (((x :: s).map ql).length : Int) 0) (D := fun t => ([], t)) h.len' (fun _ => ?_) (fun e => absurd (ok_ck h) e)
  rw [lenQ]
  exact kinds0 (x :: s) h.len (x :: s) [] [] rfl rfl
theorem Kinds_err {l : List (List S46)} (hl : l.length < 1000) (h : ck l ≠ 0) : Ev (fun k => arch_Kinds.f k l) ([], ck l) := chk_bind (D := fun t => ([], t)) hl (fun e => absurd e h) (fun _ => rfl)
theorem rkinds1 (qs P S : List Q) (v : Q) (hP : qs = P ++ v :: S) (hq : qs.length < 1000) (hN : ∀ q ∈ qs, NQ q) (out : List Int) (ho : out.length < 1000) : ∀ (s p : List Q), qs = p ++ s → p.length ≤ P.length → ∀ R, Ev (fun k => gangsawref40_Kinds.l0 k (qs.map ql) (out ++ [fst (sim v) (p.length : Int) s]) ((P.length : Int) + 1)) R →
    Ev (fun k => gangsawref40_Kinds.l1 k (qs.map ql) out (P.length : Int) (ql (tq v)) (p.length : Int)) R
  | [], p, h, hp, R, hR => by
    have : qs.length = p.length := by rw [h]; simp
    have : qs.length = P.length + 1 + S.length := by rw [hP]; simp; omega
    omega
  | w :: s, p, h, hp, R, hR => by
    have hl2 : qs.length = p.length + 1 + s.length := by rw [h]; simp; omega
    have hl3 : qs.length = P.length + 1 + S.length := by rw [hP]; simp; omega
    have ew : rd_L2 (qs.map ql) (p.length : Int) = ql w := by rw [h]; exact rdQ_app p s w
    have hw : NQ w := hN w (by rw [h]; simp)
    refine Ev.step (f := fun k => (gangsawref40_Template.f k (ql w)).bind fun t497 => ((gangsawref40_SameLine.f k (ql (tq v)) t497).bind fun t500 => (if t500 = true then (gangsawref40_Kinds.l0 k (qs.map ql) (out ++ [(p.length : Int)]) ((P.length : Int) + 1)) else ((gangsawref40_mirrored.f k t497).bind fun t504 => ((gangsawref40_SameLine.f k (ql (tq v)) t504).bind fun t507 => (if t507 = true then (gangsawref40_Kinds.l0 k (qs.map ql) (out ++ [(p.length : Int)]) ((P.length : Int) + 1)) else (gangsawref40_Kinds.l1 k (qs.map ql) out (P.length : Int) (ql (tq v)) ((p.length : Int) + 1)))))))) (fun k => ?_) ?_
    · simp only [gangsawref40_Kinds.l1]
      rw [ew, lenQ, hl2, if_pos (by omega), if_pos (by omega), if_pos (by omega), wrn _ (by omega), wrn _ (by omega)]
      simp only [if_pos (show out.length < 17592186044416 by omega)]
    · refine Ev.bind (f := fun k t497 => ((gangsawref40_SameLine.f k (ql (tq v)) t497).bind fun t500 => (if t500 = true then (gangsawref40_Kinds.l0 k (qs.map ql) (out ++ [(p.length : Int)]) ((P.length : Int) + 1)) else ((gangsawref40_mirrored.f k t497).bind fun t504 => ((gangsawref40_SameLine.f k (ql (tq v)) t504).bind fun t507 => (if t507 = true then (gangsawref40_Kinds.l0 k (qs.map ql) (out ++ [(p.length : Int)]) ((P.length : Int) + 1)) else (gangsawref40_Kinds.l1 k (qs.map ql) out (P.length : Int) (ql (tq v)) ((p.length : Int) + 1)))))))) (Ev.late 12 fun k => rtemplate_f k w) ?_
      refine Ev.bind (f := fun k t500 => (if t500 = true then (gangsawref40_Kinds.l0 k (qs.map ql) (out ++ [(p.length : Int)]) ((P.length : Int) + 1)) else ((gangsawref40_mirrored.f k (ql (tq w))).bind fun t504 => ((gangsawref40_SameLine.f k (ql (tq v)) t504).bind fun t507 => (if t507 = true then (gangsawref40_Kinds.l0 k (qs.map ql) (out ++ [(p.length : Int)]) ((P.length : Int) + 1)) else (gangsawref40_Kinds.l1 k (qs.map ql) out (P.length : Int) (ql (tq v)) ((p.length : Int) + 1))))))) (SameLine_ev _ _ (show 4 < 1000000 by decide)) ?_
      rw [fst] at hR
      cases e1 : eqLn (ql (tq v)) (ql (tq w)) with
      | true =>
        simp only [if_true]
        rw [if_pos (by unfold sim; rw [e1]; rfl)] at hR
        exact hR
      | false =>
        simp only [Bool.false_eq_true, if_false]
        refine Ev.bind (f := fun k t504 => ((gangsawref40_SameLine.f k (ql (tq v)) t504).bind fun t507 => (if t507 = true then (gangsawref40_Kinds.l0 k (qs.map ql) (out ++ [(p.length : Int)]) ((P.length : Int) + 1)) else (gangsawref40_Kinds.l1 k (qs.map ql) out (P.length : Int) (ql (tq v)) ((p.length : Int) + 1))))) (Ev.late 12 fun k => rmirrored_f k (tq w)) ?_
        rw [w0_tq hw]
        refine Ev.bind (f := fun k t507 => (if t507 = true then (gangsawref40_Kinds.l0 k (qs.map ql) (out ++ [(p.length : Int)]) ((P.length : Int) + 1)) else (gangsawref40_Kinds.l1 k (qs.map ql) out (P.length : Int) (ql (tq v)) ((p.length : Int) + 1)))) (SameLine_ev _ _ (show 4 < 1000000 by decide)) ?_
        cases e2 : eqLn (ql (tq v)) (ql (fq (wq w) (tq w))) with
        | true =>
          simp only [if_true]
          rw [if_pos (by unfold sim; rw [e1, e2]; rfl)] at hR
          exact hR
        | false =>
          simp only [Bool.false_eq_true, if_false]
          have hs : sim v w = false := by unfold sim; rw [e1, e2]; rfl
          rw [if_neg (by rw [hs]; decide)] at hR
          have hne : p.length ≠ P.length := fun e => by
            have := List.append_inj (h.symm.trans hP) e
            have hwv : w = v := (List.cons.inj this.2).1
            rw [hwv, sim_self] at hs
            cases hs
          have := rkinds1 qs P S v hP hq hN out ho s (p ++ [w]) (by rw [← app_snoc]; exact h) (by simp; omega) R (by rw [len_snoc]; exact hR)
          rw [len_snoc] at this
          exact this
theorem rkinds0 (qs : List Q) (hq : qs.length < 1000) (hN : ∀ q ∈ qs, NQ q) : ∀ (s p : List Q) (out : List Int), qs = p ++ s → out.length = p.length → Ev (fun k => gangsawref40_Kinds.l0 k (qs.map ql) out (p.length : Int)) (out ++ s.map (fun v => fst (sim v) 0 qs))
  | [], p, out, h, ho => Ev.const1 (fun k => by simp only [gangsawref40_Kinds.l0]; rw [if_neg (by rw [h]; simp)]; simp)
  | x :: s, p, out, h, ho => by
    have hl2 : qs.length = p.length + 1 + s.length := by rw [h]; simp; omega
    have ih := rkinds0 qs hq hN s (p ++ [x]) (out ++ [fst (sim x) 0 qs]) (by rw [← app_snoc]; exact h) (by simp [ho])
    rw [len_snoc] at ih
    refine Ev.step (f := fun k => (gangsawref40_Template.f k (ql x)).bind fun t => gangsawref40_Kinds.l1 k (qs.map ql) out (p.length : Int) t 0) (fun k => ?_) ?_
    · have ex : rd_L2 (qs.map ql) (p.length : Int) = ql x := by rw [h]; exact rdQ_app p s x
      simp only [gangsawref40_Kinds.l0]
      rw [ex, lenQ, hl2, if_pos (by omega), if_pos (by omega)]
    · refine Ev.bind (f := fun k t => gangsawref40_Kinds.l1 k (qs.map ql) out (p.length : Int) t 0) (Ev.late 12 fun k => rtemplate_f k x) ?_
      have := rkinds1 qs p s x h hq hN out (by omega) qs [] rfl (by simp) _ ih
      refine Ev.eq this ?_
      simp
theorem rKinds_ev {x : Q} {s : List Q} (h : Ok x s) : Ev (fun k => gangsawref40_Kinds.f k ((x :: s).map ql)) (kinds (x :: s)) :=
  rkinds0 (x :: s) h.len h.nq (x :: s) [] [] rfl rfl
theorem templates0 (qs : List Q) (hq : qs.length < 1000) : ∀ (s p : List Q) (out : List (List S46)), qs = p ++ s → out.length = p.length → Ev (fun k => arch_Templates.l0 k out (qs.map ql) (qs.length : Int) (p.length : Int)) (out ++ (s.map tq).map ql, 0)
  | [], p, out, h, ho => Ev.const1 (fun k => by simp only [arch_Templates.l0]; rw [if_neg (by rw [h]; simp)]; simp)
  | x :: s, p, out, h, ho => by
    have hl2 : qs.length = p.length + 1 + s.length := by rw [h]; simp; omega
    have ih := templates0 qs hq s (p ++ [x]) (out ++ [ql (tq x)]) (by rw [← app_snoc]; exact h) (by simp [ho])
    rw [len_snoc] at ih
    refine Ev.step (f := fun k => arch_Templates.l0 k (out ++ [ql (tq x)]) (qs.map ql) (qs.length : Int) ((p.length : Int) + 1)) (fun k => ?_) ?_
    · have ex : rd_L2 (qs.map ql) (p.length : Int) = ql x := by rw [h]; exact rdQ_app p s x
      simp only [arch_Templates.l0]
      rw [ex, template_f, lenQ, hl2, if_pos (by omega), if_pos (by omega), if_pos (by omega), wrn _ (by omega)]
      simp only [if_pos (show out.length < 5864062014805 by omega)]
      rfl
    · refine Ev.eq ih ?_
      simp
def tqs (qs : List Q) : List (List S46) := (qs.map tq).map ql
theorem Templates_ev {x : Q} {s : List Q} (h : Ok x s) : Ev (fun k => arch_Templates.f k ((x :: s).map ql)) (tqs (x :: s), 0) := by
  refine chk_bind (G := fun k => arch_Templates.l0 k [] ((x :: s).map ql) (((x :: s).map ql).length : Int) 0) (D := fun t => ([], t)) h.len' (fun _ => ?_) (fun e => absurd (ok_ck h) e)
  rw [lenQ]
  exact templates0 (x :: s) h.len (x :: s) [] [] rfl rfl
theorem Templates_err {l : List (List S46)} (hl : l.length < 1000) (h : ck l ≠ 0) : Ev (fun k => arch_Templates.f k l) ([], ck l) := chk_bind (D := fun t => ([], t)) hl (fun e => absurd e h) (fun _ => rfl)
def farQ (qs : List Q) : Bool := qs.any fun q => (ql q).any farB
theorem anyfarQ_ev (qs : List Q) (hl : qs.length < 1000) : Ev (fun k => api_Polygon_53_by_arch_Mirror_1.f k (qs.map ql)) (farQ qs) := by
  have := ix_any api_Polygon_50_by_arch_Mirror_1.l0 (fun k v => arch_Mirror_1.f k v) rd_L2 rdL_app (fun _ _ _ _ => rfl) (fun v => v.any farB) (qs.map ql) (fun v hv => by
    obtain ⟨q, _, rfl⟩ := List.mem_map.1 hv
    exact Ev.bind (f := fun _ t => some t) (anyfar_ev (ql q) (show 4 < 1000000 by decide)) (Ev.now _)) (by rw [List.length_map]; omega)
  refine Ev.eq this ?_
  rw [List.any_map]
  rfl
theorem Mirror_ev {x : Q} {s : List Q} (h : Ok x s) : Ev (fun k => arch_Mirror.f k ((x :: s).map ql)) (if farQ (mirQ x s) = true then ([], 6) else ((mirQ x s).map ql, 0)) := by
  refine chk_bind (G := fun k => (arch_mirror.f k ((x :: s).map ql)).bind fun t469 => ((api_Polygon_53_by_arch_Mirror_1.f k t469).bind fun t472 => (if t472 = true then (some (([] : List (List (S46))), 6)) else (some (t469, 0))))) (D := fun t => ([], t)) h.len' (fun _ => ?_) (fun e => absurd (ok_ck h) e)
  refine Ev.bind (f := fun k t469 => ((api_Polygon_53_by_arch_Mirror_1.f k t469).bind fun t472 => (if t472 = true then (some (([] : List (List (S46))), 6)) else (some (t469, 0))))) (mirror_ev x s h.len) ?_
  refine Ev.bind (f := fun k t472 => (if t472 = true then (some (([] : List (List (S46))), 6)) else (some ((mirQ x s).map ql, 0)))) (anyfarQ_ev _ (by unfold mirQ; rw [List.length_reverse, List.length_map]; exact h.len)) ?_
  cases farQ (mirQ x s) <;> exact Ev.now _
theorem Mirror_err {l : List (List S46)} (hl : l.length < 1000) (h : ck l ≠ 0) : Ev (fun k => arch_Mirror.f k l) ([], ck l) := chk_bind (D := fun t => ([], t)) hl (fun e => absurd e h) (fun _ => rfl)
theorem nr_row (L : List (List S46)) (i : Int) (x : Q) (hx : rd_L2 L i = ql x) (h0 : 0 ≤ i) (h1 : i < (L.length : Int)) (k : Nat) :
    gangsawref40_Near.l1 (k + 5) L i 0 = if (ql x).any farB = true then some false else gangsawref40_Near.l0 k L (wrap64 (i + 1)) := by
  have st : ∀ (k : Nat) (j : Int) (p : S46), 0 ≤ j → j < 4 → rd_T46 (ql x) j = p → gangsawref40_Near.l1 (k + 1) L i j = if farB p = true then some false else gangsawref40_Near.l1 k L i (wrap64 (j + 1)) := fun k j p j0 j1 e => by
    simp only [gangsawref40_Near.l1]
    rw [if_pos h0, if_pos h1, hx, if_pos (by rw [ql4]; exact j1), if_pos j0, e, near_f, near_f, Option.bind_some]
    have := near_far p
    generalize (decide (p.f0 ≥ -1000000) && decide (p.f0 ≤ 1000000)) = u at this ⊢
    generalize (decide (p.f1 ≥ -1000000) && decide (p.f1 ≤ 1000000)) = v at this ⊢
    cases u <;> cases v <;> cases hf : farB p <;> rw [hf] at this <;> first | rfl | (exact absurd this (by decide))
  rw [st (k + 4) 0 x.a (by omega) (by omega) rfl, show wrap64 (0 + 1) = 1 from by decide +kernel, st (k + 3) 1 x.b (by omega) (by omega) rfl, show wrap64 (1 + 1) = 2 from by decide +kernel, st (k + 2) 2 x.c (by omega) (by omega) rfl, show wrap64 (2 + 1) = 3 from by decide +kernel, st (k + 1) 3 x.d (by omega) (by omega) rfl, show wrap64 (3 + 1) = 4 from by decide +kernel]
  have e : gangsawref40_Near.l1 (k + 1) L i 4 = gangsawref40_Near.l0 k L (wrap64 (i + 1)) := by simp only [gangsawref40_Near.l1]; rw [if_pos h0, if_pos h1, hx, if_neg (by rw [ql4]; omega)]
  rw [e]
  simp only [ql, List.any_cons, List.any_nil, Bool.or_false]
  cases farB x.a <;> cases farB x.b <;> cases farB x.c <;> cases farB x.d <;> rfl
theorem nr0 : ∀ (s p : List Q), (p ++ s).length < 1000 → Ev (fun k => gangsawref40_Near.l0 k ((p ++ s).map ql) (p.length : Int)) (!farQ s)
  | [], p, hl => Ev.const1 (fun k => by simp only [gangsawref40_Near.l0]; rw [if_neg (by simp)]; rfl)
  | x :: s, p, hl => by
    have hl2 : (p ++ x :: s).length = p.length + 1 + s.length := by simp; omega
    have ih := nr0 s (p ++ [x]) (by rw [← app_snoc]; exact hl)
    rw [← app_snoc, len_snoc] at ih
    have h2 : Ev (fun k => if (ql x).any farB = true then some false else gangsawref40_Near.l0 k ((p ++ x :: s).map ql) ((p.length : Int) + 1)) (!farQ (x :: s)) := by
      unfold farQ at ih ⊢
      rw [List.any_cons]
      cases c : (ql x).any farB with
      | true => simp only [if_true, Bool.true_or]; exact Ev.now _
      | false => simp only [Bool.false_eq_true, if_false, Bool.false_or]; exact ih
    obtain ⟨K, hK⟩ := h2
    refine ⟨K + 6, fun k hk => ?_⟩
    obtain ⟨m, rfl⟩ : ∃ m, k = m + 5 + 1 := ⟨k - 6, by omega⟩
    show gangsawref40_Near.l0 (m + 5 + 1) _ _ = _
    have e : gangsawref40_Near.l0 (m + 5 + 1) ((p ++ x :: s).map ql) (p.length : Int) = gangsawref40_Near.l1 (m + 5) ((p ++ x :: s).map ql) (p.length : Int) 0 := by
      simp only [gangsawref40_Near.l0]
      rw [if_pos (by rw [lenQ, hl2]; omega)]
    rw [e, nr_row _ _ x (rdQ_app p s x) (by omega) (by rw [lenQ]; exact len_app p s x), wrn _ (by omega)]
    exact hK m (by omega)
theorem Near_ev (qs : List Q) (hl : qs.length < 1000) : Ev (fun k => gangsawref40_Near.f k (qs.map ql)) (!farQ qs) := nr0 qs [] hl
theorem sameInts0 : ∀ (s p : List Int), (p ++ s).length < 1000000 → Ev (fun k => gangsawref40_SameInts.l0 k (p ++ s) (p ++ s) (p.length : Int)) true
  | [], p, _ => Ev.const1 (fun k => by simp only [gangsawref40_SameInts.l0]; rw [if_neg (by simp)])
  | x :: s, p, hl => by
    have hl2 : (p ++ x :: s).length = p.length + 1 + s.length := by simp; omega
    have ih := sameInts0 s (p ++ [x]) (by rw [← app_snoc]; exact hl)
    rw [← app_snoc, len_snoc] at ih
    refine Ev.step (fun k => ?_) ih
    simp only [gangsawref40_SameInts.l0]
    rw [hl2, if_pos (by omega), if_pos (by omega), if_pos (by omega), if_true, wrn _ (by omega)]
theorem SameInts_ev (a : List Int) (h : a.length < 1000000) : Ev (fun k => gangsawref40_SameInts.f k a a) true :=
  Ev.congr (f := fun k => gangsawref40_SameInts.l0 k a a 0) (fun k => by unfold gangsawref40_SameInts.f; rw [if_pos rfl]) (sameInts0 a [] h)

end Go.Proofs.Ytjlljjnkjhdljaa.XA
