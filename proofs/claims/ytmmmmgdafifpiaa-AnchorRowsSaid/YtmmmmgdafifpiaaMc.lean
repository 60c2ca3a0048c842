import Derived.Test.YtmmmmgdafifpiaaXAx0
import Derived.Test.YtmmmmgdafifpiaaMb
namespace Go.Proofs.Ytmmmmgdafifpiaa.XA
open Go.RowKit Go.Proofs.Ytmmmmgdafifpiaa.Opens Go.Proofs.YtmmmmgdafifpiaaW.PrintWords Go.Proofs.YtmmmmgdafifpiaaW.PrintLast Go.Proofs.YtmmmmgdafifpiaaW.PrintMore
set_option linter.unusedVariables false
set_option linter.unusedSimpArgs false
theorem rd_get (l : List S54) (i : Nat) (h : i < l.length) : rd_T54 l i = l[i] := by
  simp [rd_T54, List.getD_eq_getElem?_getD, List.getElem?_eq_getElem h]
theorem cf_comm (s : Int) (a b : S54) : cf s a b = cf s b a := by
  have h1 : (a.f1.f0 - b.f1.f0) * (a.f1.f0 - b.f1.f0) = (b.f1.f0 - a.f1.f0) * (b.f1.f0 - a.f1.f0) := by
    rw [← Int.neg_sub b.f1.f0 a.f1.f0, Int.neg_mul_neg]
  have h2 : (a.f1.f1 - b.f1.f1) * (a.f1.f1 - b.f1.f1) = (b.f1.f1 - a.f1.f1) * (b.f1.f1 - a.f1.f1) := by
    rw [← Int.neg_sub b.f1.f1 a.f1.f1, Int.neg_mul_neg]
  unfold cf
  rw [h1, h2]
  simp only [eq_comm]
theorem cfs_iff (s : Int) (l : List S54) : ∀ (m i : Nat), cfs s l m i = true ↔ ∃ n, i ≤ n ∧ n < i + m ∧ cfl s l n = true := by
  intro m
  induction m with
  | zero => intro i; simp [cfs]; omega
  | succ m ih =>
    intro i
    simp only [cfs, Bool.or_eq_true, ih]
    constructor
    · rintro (h | ⟨n, h1, h2, h3⟩)
      · exact ⟨i, by omega, by omega, h⟩
      · exact ⟨n, by omega, by omega, h3⟩
    · rintro ⟨n, h1, h2, h3⟩
      by_cases e : n = i
      · subst e; exact .inl h3
      · exact .inr ⟨n, by omega, by omega, h3⟩
theorem cfs_pw (s : Int) (l : List S54) : cfs s l l.length 0 = false ↔ l.Pairwise (fun a b => cf s a b = false) := by
  rw [← Bool.not_eq_true, cfs_iff, List.pairwise_iff_getElem]
  constructor
  · intro h i j hi hj hij
    rw [← Bool.not_eq_true]
    intro hc
    refine h ⟨j, by omega, by omega, ?_⟩
    unfold cfl
    rw [List.any_eq_true]
    refine ⟨l[i], ?_, by rw [rd_get l j hj, cf_comm]; exact hc⟩
    rw [List.mem_take_iff_getElem]
    exact ⟨i, by omega, rfl⟩
  · rintro h ⟨n, _, hn, hc⟩
    unfold cfl at hc
    rw [List.any_eq_true] at hc
    obtain ⟨b, hb, hc⟩ := hc
    rw [List.mem_take_iff_getElem] at hb
    obtain ⟨i, hi, rfl⟩ := hb
    rw [rd_get l n (by omega), cf_comm] at hc
    have := h i n (by omega) (by omega) (by omega)
    rw [this] at hc; cases hc
theorem kp_zero (X Y Z e s : Int) (l : List S54) : kp X Y Z e s l = 0 ↔ (∀ a ∈ l, gk X Y Z e a = true) ∧ l.Pairwise (fun a b => cf s a b = false) := by
  unfold kp
  rw [← cfs_pw, ← List.all_eq_true]
  cases l.all (gk X Y Z e) <;> cases cfs s l l.length 0 <;> simp
theorem pl_zero (X Y Z : Int) (l : List S54) : pl X Y Z l = 0 ↔ l.length ≤ 16 ∧ (∀ a ∈ l, ge a = true) ∧ (∀ a ∈ l, gp X Y Z a = true) := by
  unfold pl
  rw [← List.all_eq_true, ← List.all_eq_true]
  by_cases h : (l.length : Int) > 16
  · rw [if_pos h]; constructor
    · intro q; cases q
    · intro q; omega
  · rw [if_neg h]
    have h' : l.length ≤ 16 := by omega
    cases l.all ge <;> cases l.all (gp X Y Z) <;> simp [h']
theorem ck_zero (X Y Z e s b : Int) (l : List S54) : ck X Y Z e s b l = 0 ↔ Sz X Y Z ∧ Po e s b ∧ pl X Y Z l = 0 ∧ kp X Y Z e s l = 0 := by
  unfold ck
  by_cases h1 : Sz X Y Z
  · by_cases h2 : Po e s b
    · by_cases h3 : pl X Y Z l = 0
      · simp [h1, h2, h3]
      · simp [h1, h2, h3]
    · simp [h1, h2]
  · simp [h1]
theorem all_rev (p : S54 → Bool) (l : List S54) : l.reverse.all p = l.all p := by simp
theorem cfs_rev (s : Int) (l : List S54) : cfs s l.reverse l.reverse.length 0 = cfs s l l.length 0 := by
  have : cfs s l.reverse l.reverse.length 0 = false ↔ cfs s l l.length 0 = false := by
    rw [cfs_pw, cfs_pw, List.pairwise_reverse]
    constructor <;> exact fun h => h.imp (fun q => by rw [cf_comm]; exact q)
  cases h1 : cfs s l.reverse l.reverse.length 0 <;> cases h2 : cfs s l l.length 0 <;> simp_all
theorem ck_rev (X Y Z e s b : Int) (l : List S54) : ck X Y Z e s b l.reverse = ck X Y Z e s b l := by
  unfold ck pl kp
  rw [cfs_rev, all_rev, all_rev, all_rev, List.length_reverse]
theorem ck_tail (X Y Z e s b : Int) (l : List S54) (h : ck X Y Z e s b l = 0) : ck X Y Z e s b (l.drop 1) = 0 := by
  rw [ck_zero, pl_zero, kp_zero] at h ⊢
  obtain ⟨h1, h2, ⟨h3, h4, h5⟩, h6, h7⟩ := h
  refine ⟨h1, h2, ⟨by simp; omega, fun a ha => h4 a (List.mem_of_mem_drop ha), fun a ha => h5 a (List.mem_of_mem_drop ha)⟩, fun a ha => h6 a (List.mem_of_mem_drop ha), h7.sublist (List.drop_sublist 1 l)⟩
end Go.Proofs.Ytmmmmgdafifpiaa.XA
