import Derived.Test.YtejnelflfldfgaaMc
namespace Go.Proofs.Ytejnelflfldfgaa.XA
set_option linter.unusedVariables false
set_option linter.unusedSimpArgs false
open Go.RowKit Go.Proofs.Ytejnelflfldfgaa.Opens Go.Proofs.YtejnelflfldfgaaW.PrintWords Go.Proofs.YtejnelflfldfgaaW.PrintLast Go.Proofs.YtejnelflfldfgaaW.PrintMore
def seg (xs : List Int) (s e : Int) : List Int := (xs.take e.toNat).drop s.toNat
theorem seg_cons {xs : List Int} {s e : Int} (h0 : 0 ≤ s) (h1 : s < e) (h2 : e ≤ xs.length) : seg xs s e = rd xs s :: seg xs (s + 1) e := by
  unfold seg
  have hl : (xs.take e.toNat).length = e.toNat := by rw [List.length_take]; omega
  rw [drop_rd (xs := xs.take e.toNat) h0 (by omega)]
  congr 1
  obtain ⟨h, q⟩ := rd_at (xs := xs.take e.toNat) (i := s) h0 (by omega)
  obtain ⟨h', q'⟩ := rd_at (xs := xs) (i := s) h0 (by omega)
  rw [q, q', List.getElem_take]
theorem seg_nil {xs : List Int} {s e : Int} (h1 : e ≤ s) : seg xs s e = [] := by
  unfold seg
  apply List.drop_eq_nil_of_le
  rw [List.length_take]; omega
def lo (i : Int) : Int := mx 0 (i - 1)
def hi (xs : List Int) (i : Int) : Int := mn (xs.length : Int) (i + 2)
def w0 (xs : List Int) (i : Int) : Int := (if 1 ≤ i then rd xs (i - 1) else 0) + rd xs i + (if i + 1 < xs.length then rd xs (i + 1) else 0)
def wn (xs : List Int) (i : Int) : Int := (if 1 ≤ i then 1 else 0) + 1 + (if i + 1 < xs.length then 1 else 0)
def sm (xs : List Int) (i : Int) : Int := Int.tdiv (2 * w0 xs i + wn xs i) (2 * wn xs i)
theorem win {xs : List Int} {i : Int} (h0 : 0 ≤ i) (h1 : i < xs.length) : (seg xs (lo i) (hi xs i)).sum = w0 xs i ∧ ((seg xs (lo i) (hi xs i)).length : Int) = wn xs i := by
  unfold w0 wn
  by_cases a : 1 ≤ i
  · have el : lo i = i - 1 := by unfold lo mx; split <;> omega
    by_cases b : i + 1 < xs.length
    · have eh : hi xs i = i + 2 := by unfold hi mn; split <;> omega
      rw [el, eh, seg_cons (by omega) (by omega) (by omega), seg_cons (by omega) (by omega) (by omega), seg_cons (by omega) (by omega) (by omega), seg_nil (by omega), if_pos a, if_pos a, if_pos b, if_pos b,
        show i - 1 + 1 = i by omega]
      simp only [List.sum_cons, List.sum_nil, List.length_cons, List.length_nil]
      omega
    · have eh : hi xs i = i + 1 := by unfold hi mn; split <;> omega
      rw [el, eh, seg_cons (by omega) (by omega) (by omega), seg_cons (by omega) (by omega) (by omega), seg_nil (by omega), if_pos a, if_pos a, if_neg b, if_neg b, show i - 1 + 1 = i by omega]
      simp only [List.sum_cons, List.sum_nil, List.length_cons, List.length_nil]
      omega
  · have el : lo i = i := by unfold lo mx; split <;> omega
    by_cases b : i + 1 < xs.length
    · have eh : hi xs i = i + 2 := by unfold hi mn; split <;> omega
      rw [el, eh, seg_cons (by omega) (by omega) (by omega), seg_cons (by omega) (by omega) (by omega), seg_nil (by omega), if_neg a, if_neg a, if_pos b, if_pos b]
      simp only [List.sum_cons, List.sum_nil, List.length_cons, List.length_nil]
      omega
    · have eh : hi xs i = i + 1 := by unfold hi mn; split <;> omega
      rw [el, eh, seg_cons (by omega) (by omega) (by omega), seg_nil (by omega), if_neg a, if_neg a, if_neg b, if_neg b]
      simp only [List.sum_cons, List.sum_nil, List.length_cons, List.length_nil]
      omega
theorem sum_bd (a b : Int) (hb : 0 ≤ b) : ∀ (l : List Int), (∀ x ∈ l, a ≤ x ∧ x ≤ b) → a * l.length ≤ l.sum ∧ l.sum ≤ b * l.length
  | [], _ => by simp
  | x :: l, h => by
    have h1 := h x (by simp)
    have h2 := sum_bd a b hb l (fun y hy => h y (by simp [hy]))
    simp only [List.sum_cons, List.length_cons]
    rw [show ((l.length + 1 : Nat) : Int) = (l.length : Int) + 1 by omega, Int.mul_add, Int.mul_add]
    omega
theorem seg_mem {xs : List Int} {s e x : Int} (h : x ∈ seg xs s e) : x ∈ xs := List.mem_of_mem_take (List.mem_of_mem_drop h)
theorem okB_mem {xs : List Int} (h : okB xs = true) {x : Int} (hx : x ∈ xs) : 0 ≤ x ∧ x ≤ 1000 := by
  unfold okB at h
  rw [List.all_eq_true] at h
  simpa using h x hx
theorem okB_seg {xs : List Int} (h : okB xs = true) (s e : Int) : okB (seg xs s e) = true := by
  unfold okB at *
  rw [List.all_eq_true] at *
  exact fun x hx => h x (seg_mem hx)
theorem wn_bd (xs : List Int) (i : Int) : 1 ≤ wn xs i ∧ wn xs i ≤ 3 := by unfold wn; split <;> split <;> omega
theorem avg (S n a b : Int) (h : n = 1 ∨ n = 2 ∨ n = 3) (h0 : 0 ≤ S) (h1 : a * n ≤ S) (h2 : S ≤ b * n) : a ≤ Int.tdiv (2 * S + n) (2 * n) ∧ Int.tdiv (2 * S + n) (2 * n) ≤ b := by
  rw [Int.tdiv_eq_ediv_of_nonneg (by omega)]
  rcases h with rfl | rfl | rfl <;> omega
theorem sm_bd {xs : List Int} {a b : Int} (hb : 0 ≤ b) (h : ∀ x ∈ xs, a ≤ x ∧ x ≤ b) (hk : okB xs = true) {i : Int} (h0 : 0 ≤ i) (h1 : i < xs.length) : a ≤ sm xs i ∧ sm xs i ≤ b := by
  obtain ⟨e1, e2⟩ := win h0 h1
  have q := sum_bd a b hb (seg xs (lo i) (hi xs i)) (fun x hx => h x (seg_mem hx))
  have q' := sum_bd 0 1000 (by omega) (seg xs (lo i) (hi xs i)) (fun x hx => okB_mem hk (seg_mem hx))
  rw [e1, e2] at q q'
  have := wn_bd xs i
  exact avg _ _ _ _ (by omega) (by omega) q.1 q.2
def smL (xs : List Int) : Nat → Int → List Int
  | 0, _ => []
  | m + 1, i => sm xs i :: smL xs m (i + 1)
theorem smL_len (xs : List Int) : ∀ (m : Nat) (i : Int), (smL xs m i).length = m
  | 0, _ => rfl
  | m + 1, i => by simp [smL, smL_len xs m (i + 1)]
theorem smL_rd (xs : List Int) : ∀ (m : Nat) (i j : Int), 0 ≤ j → j < m → rd (smL xs m i) j = sm xs (i + j)
  | 0, _, _, _, _ => by omega
  | m + 1, i, j, h0, h1 => by
    by_cases e : j = 0
    · subst e; rw [Int.add_zero]; rfl
    · have := smL_rd xs m (i + 1) (j - 1) (by omega) (by omega)
      rw [show i + 1 + (j - 1) = i + j by omega] at this
      rw [← this]
      rw [show smL xs (m + 1) i = sm xs i :: smL xs m (i + 1) from rfl]
      unfold rd
      rw [show j.toNat = (j - 1).toNat + 1 by omega]
      rfl
/-- The smoothed code. -/
def smo (xs : List Int) : List Int := smL xs xs.length 0
theorem smooth1 {xs acc : List Int} {N i : Int} (hi0 : 0 ≤ i) (hi1 : i < 100) (lst : List Int) (ho : okB lst = true) (h1 : 1 ≤ lst.length) (h3 : lst.length ≤ 3) (ha : acc.length < 17592186044416) :
    ∀ (m : Nat) (j s : Int) (k : Nat), 0 ≤ j → j + m = lst.length → 0 ≤ s → s ≤ 1000 * j →
    colour_Smooth.l1 (m + 1 + k) xs acc s j N i lst lst.length j = colour_Smooth.l0 k xs (acc ++ [Int.tdiv (2 * (s + (lst.drop j.toNat).sum) + lst.length) (2 * lst.length)]) N (i + 1) := by
  intro m
  induction m with
  | zero =>
    intro j s k h0 hm hs0 hs
    rw [show 0 + 1 + k = k + 1 by omega]
    simp only [colour_Smooth.l1]
    rw [if_neg (by omega), drop_end (by omega), show j = (lst.length : Int) by omega, wr (x := 2 * (lst.length : Int)) (by omega), if_neg (by omega), if_pos ha,
      wr (x := 2 * s) (by omega), wr (x := 2 * s + (lst.length : Int)) (by omega), wr (x := i + 1) (by omega)]
    have := tdiv_bd (x := 2 * s + (lst.length : Int)) (y := 2 * (lst.length : Int)) (by omega) (by omega)
    rw [wr (by omega)]
    simp
  | succ m ih =>
    intro j s k h0 hm hs0 hs
    rw [show m + 1 + 1 + k = (m + 1 + k) + 1 by omega]
    simp only [colour_Smooth.l1]
    have r := okB_rd ho h0 (by omega : j < lst.length)
    rw [if_pos (by omega), if_pos h0, if_pos (by omega), wr (x := s + _) (by omega), wr (x := j + 1) (by omega), ih (j + 1) _ k (by omega) (by omega) (by omega) (by omega), drop_rd h0 (by omega)]
    rw [List.sum_cons, Int.add_assoc]
theorem smooth0 {xs : List Int} (hx : XA.Good xs) : ∀ (m : Nat) (i : Int) (acc : List Int) (k : Nat), 0 ≤ i → i + m = xs.length → acc.length = i.toNat → 5 * m < k →
    colour_Smooth.l0 k xs acc xs.length i = some (acc ++ smL xs m i, 0) := by
  have h64 := hx.hi
  intro m
  induction m with
  | zero =>
    intro i acc k h0 hm _ hk
    obtain ⟨k, rfl⟩ : ∃ q, k = q + 1 := ⟨k - 1, by omega⟩
    simp only [colour_Smooth.l0]
    rw [if_neg (by omega)]
    simp [smL]
  | succ m ih =>
    intro i acc k h0 hm ha hk
    obtain ⟨w1, w2⟩ := win (xs := xs) (i := i) h0 (by omega)
    have w3 := wn_bd xs i
    have el : mx 0 (wrap64 (i - 1)) = lo i := by rw [wr (by omega)]; rfl
    have eh : mn (xs.length : Int) (wrap64 (i + 2)) = hi xs i := by rw [wr (by omega)]; rfl
    have l0 : 0 ≤ lo i := by unfold lo mx; split <;> omega
    have l1 : lo i ≤ hi xs i := by unfold lo hi mx mn; split <;> split <;> omega
    have l2 : hi xs i ≤ xs.length := by unfold hi mn; split <;> omega
    obtain ⟨k, rfl⟩ : ∃ q, k = (seg xs (lo i) (hi xs i)).length + 1 + q + 1 := ⟨k - 2 - (seg xs (lo i) (hi xs i)).length, by omega⟩
    simp only [colour_Smooth.l0]
    rw [if_pos (by omega), el, eh, if_pos l0, if_pos l1, if_pos l2]
    have := smooth1 (xs := xs) (acc := acc) (N := xs.length) (i := i) h0 (by omega) (seg xs (lo i) (hi xs i)) (okB_seg hx.ok _ _) (by omega) (by omega) (by omega) (seg xs (lo i) (hi xs i)).length 0 0 k (by omega) (by omega) (by omega) (by omega)
    rw [show (xs.take (hi xs i).toNat).drop (lo i).toNat = seg xs (lo i) (hi xs i) from rfl, this, show ((0 : Int).toNat) = 0 from rfl, List.drop_zero, w1, w2, ih (i + 1) _ k (by omega) (by omega) (by simp; omega) (by omega)]
    simp only [smL, sm, Int.zero_add, List.append_assoc, List.singleton_append]
theorem Smooth_k (xs : List Int) {k : Nat} (hk : 400 ≤ k) : colour_Smooth.f k xs = some (if chk xs = 0 then (smo xs, 0) else ([], chk xs)) := by
  unfold colour_Smooth.f
  rw [check_k _ (by omega)]
  simp only [Option.bind_some]
  by_cases h : chk xs = 0
  · have g := (good_iff xs).1 h
    have := g.hi
    rw [if_pos h, if_pos h, smooth0 g xs.length 0 [] _ (by omega) (by omega) rfl (by omega)]
    rfl
  · rw [if_neg h, if_neg h]
theorem smo_len (xs : List Int) : (smo xs).length = xs.length := smL_len xs _ _
theorem smo_rd (xs : List Int) {i : Int} (h0 : 0 ≤ i) (h1 : i < xs.length) : rd (smo xs) i = sm xs i := by
  unfold smo
  rw [smL_rd xs _ 0 i h0 h1, Int.zero_add]
theorem good_smo {xs : List Int} (h : XA.Good xs) : XA.Good (smo xs) := by
  refine ⟨by rw [smo_len]; exact h.lo, by rw [smo_len]; exact h.hi, okB_of fun i h0 h1 => ?_⟩
  rw [smo_len] at h1
  rw [smo_rd xs h0 h1]
  exact sm_bd (by omega) (fun x hx => okB_mem h.ok hx) h.ok h0 h1
theorem okB_reverse (a : List Int) : okB a.reverse = okB a := by unfold okB; rw [List.all_reverse]
theorem good_reverse {a : List Int} (h : XA.Good a) : XA.Good a.reverse := ⟨by rw [List.length_reverse]; exact h.lo, by rw [List.length_reverse]; exact h.hi, by rw [okB_reverse]; exact h.ok⟩
end Go.Proofs.Ytejnelflfldfgaa.XA
