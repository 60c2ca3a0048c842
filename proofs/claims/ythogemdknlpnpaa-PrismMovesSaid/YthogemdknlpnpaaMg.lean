/- Convex polygons over the whole numbers: no program in sight. -/
namespace Go.Proofs.Ythogemdknlpnpaa.Geo
/-- Twice the area of the triangle a, b, c: positive where it turns to the left. -/
def cr3 (a b c : Int × Int) : Int := (b.1 - a.1) * (c.2 - a.2) - (b.2 - a.2) * (c.1 - a.1)
/-- The order of the corners: by y, then by x. -/
def lt2 (a b : Int × Int) : Prop := a.2 < b.2 ∨ (a.2 = b.2 ∧ a.1 < b.1)
instance (a b : Int × Int) : Decidable (lt2 a b) := inferInstanceAs (Decidable (_ ∨ _))
theorem lt2_irrefl (a : Int × Int) : ¬ lt2 a a := by unfold lt2; omega
theorem lt2_trans {a b c : Int × Int} (h : lt2 a b) (k : lt2 b c) : lt2 a c := by unfold lt2 at *; omega
theorem lt2_total (a b : Int × Int) (h : a ≠ b) : lt2 a b ∨ lt2 b a := by
  unfold lt2
  have : ¬ (a.1 = b.1 ∧ a.2 = b.2) := fun e => h (Prod.ext e.1 e.2)
  omega
theorem pos_of_mul {D w : Int} (hD : 0 < D) (h : 0 < D * w) : 0 < w := by
  rcases Int.lt_or_le 0 w with h1 | h1
  · exact h1
  · have := Int.mul_nonpos_of_nonneg_of_nonpos (Int.le_of_lt hD) h1
    omega
theorem nonneg_of_mul {D w : Int} (hD : 0 < D) (h : 0 ≤ D * w) : 0 ≤ w := by
  rcases Int.lt_or_le w 0 with h1 | h1
  · have := Int.mul_neg_of_pos_of_neg hD h1
    omega
  · exact h1
/-- What lies in the cone of a corner whose neighbours are greater is no less than it. -/
theorem cone {u v t m : Int × Int} (h1 : 0 < cr3 u v t) (h2 : 0 ≤ cr3 v t m) (h3 : 0 ≤ cr3 u v m) (ht : lt2 v t) (hu : lt2 v u) : ¬ lt2 m v := by
  obtain ⟨ux, uy⟩ := u
  obtain ⟨vx, vy⟩ := v
  obtain ⟨tx, ty⟩ := t
  obtain ⟨mx, my⟩ := m
  simp only [cr3, lt2] at *
  have ey : ((vx - ux) * (ty - uy) - (vy - uy) * (tx - ux)) * (my - vy) = ((vx - ux) * (my - uy) - (vy - uy) * (mx - ux)) * (ty - vy) + ((tx - vx) * (my - vy) - (ty - vy) * (mx - vx)) * (uy - vy) := by grind
  have ex : ((vx - ux) * (ty - uy) - (vy - uy) * (tx - ux)) * (mx - vx) = ((vx - ux) * (my - uy) - (vy - uy) * (mx - ux)) * (tx - vx) + ((tx - vx) * (my - vy) - (ty - vy) * (mx - vx)) * (ux - vx) := by grind
  have eD : (vx - ux) * (ty - uy) - (vy - uy) * (tx - ux) = (tx - vx) * (uy - vy) - (ty - vy) * (ux - vx) := by grind
  generalize (vx - ux) * (ty - uy) - (vy - uy) * (tx - ux) = D at *
  generalize (vx - ux) * (my - uy) - (vy - uy) * (mx - ux) = A at *
  generalize (tx - vx) * (my - vy) - (ty - vy) * (mx - vx) = B at *
  have hay : 0 ≤ ty - vy := by omega
  have hby : 0 ≤ uy - vy := by omega
  have p1 := Int.mul_nonneg h3 hay
  have p2 := Int.mul_nonneg h2 hby
  have hwy : 0 ≤ my - vy := nonneg_of_mul h1 (by omega)
  rintro (hm | ⟨hm1, hm2⟩)
  · omega
  · have z : my - vy = 0 := by omega
    rw [z, Int.mul_zero] at ey
    have zA : A * (ty - vy) = 0 := by omega
    have zB : B * (uy - vy) = 0 := by omega
    have neg : D * (mx - vx) < 0 := Int.mul_neg_of_pos_of_neg h1 (by omega)
    rcases Int.mul_eq_zero.1 zA with a0 | a0
    · rcases Int.mul_eq_zero.1 zB with b0 | b0
      · subst a0; subst b0; simp at ex; omega
      · have hux : 0 ≤ ux - vx := by omega
        have := Int.mul_nonneg h2 hux
        subst a0; simp at ex; omega
    · have htx : 0 ≤ tx - vx := by omega
      have q1 := Int.mul_nonneg h3 htx
      rcases Int.mul_eq_zero.1 zB with b0 | b0
      · subst b0; simp at ex; omega
      · have hux : 0 ≤ ux - vx := by omega
        have := Int.mul_nonneg h2 hux
        omega
/-- The corners come round again. -/
def Per (P : Nat → Int × Int) (n : Nat) : Prop := ∀ j, P (j + n) = P j
/-- Every other corner lies strictly on the left of every edge. -/
def Glob (P : Nat → Int × Int) (n : Nat) : Prop := ∀ i j, 2 ≤ j → j < n → 0 < cr3 (P i) (P (i + 1)) (P (i + j))
/-- A least corner among its neighbours: the edge to it leads down, the edge from it up. -/
def Sw (P : Nat → Int × Int) (i : Nat) : Prop := ¬ lt2 (P i) (P (i + 1)) ∧ lt2 (P (i + 1)) (P (i + 2))
theorem cr3_aab (a b : Int × Int) : cr3 a b a = 0 := by simp only [cr3]; grind
theorem cr3_abb (a b : Int × Int) : cr3 a b b = 0 := by simp only [cr3]; grind
theorem cr3_eq (a b : Int × Int) : cr3 a a b = 0 := by simp only [cr3]; grind
theorem glob_ne {P : Nat → Int × Int} {n : Nat} (hn : 3 ≤ n) (h : Glob P n) (i d : Nat) (h1 : 1 ≤ d) (h2 : d < n) : P i ≠ P (i + d) := by
  intro e
  rcases Nat.eq_or_lt_of_le h1 with rfl | h3
  · have := h i 2 (by omega) (by omega)
    rw [← e, cr3_eq] at this
    omega
  · have := h i d h3 h2
    rw [← e, cr3_aab] at this
    omega
theorem least_of_sw {P : Nat → Int × Int} {n : Nat} (hn : 3 ≤ n) (hp : Per P n) (h : Glob P n) {i : Nat} (hs : Sw P i) (d : Nat) (hd : d < n) : ¬ lt2 (P (i + 1 + d)) (P (i + 1)) := by
  have hu : lt2 (P (i + 1)) (P i) := (lt2_total _ _ (glob_ne hn h i 1 (by omega) (by omega))).resolve_left hs.1
  have h1 : 0 < cr3 (P i) (P (i + 1)) (P (i + 2)) := h i 2 (by omega) (by omega)
  have h2 : 0 ≤ cr3 (P (i + 1)) (P (i + 2)) (P (i + 1 + d)) := by
    by_cases d0 : d = 0
    · subst d0; rw [Nat.add_zero, cr3_aab]; omega
    · by_cases d1 : d = 1
      · subst d1; rw [cr3_abb]; omega
      · exact Int.le_of_lt (h (i + 1) d (by omega) hd)
  have h3 : 0 ≤ cr3 (P i) (P (i + 1)) (P (i + 1 + d)) := by
    by_cases d0 : d = 0
    · subst d0; rw [Nat.add_zero, cr3_abb]; omega
    · by_cases d1 : d + 1 = n
      · rw [show i + 1 + d = i + n by omega, hp, cr3_aab]; omega
      · have := h i (d + 1) (by omega) (by omega)
        rw [show i + (d + 1) = i + 1 + d by omega] at this
        omega
  exact cone h1 h2 h3 hs.2 hu
theorem sw_one {P : Nat → Int × Int} {n : Nat} (hn : 3 ≤ n) (hp : Per P n) (h : Glob P n) {i j : Nat} (hi : Sw P i) (hj : Sw P j) (h1 : i ≤ j) (h2 : j < i + n) : i = j := by
  refine Classical.byContradiction fun hne => ?_
  have a := least_of_sw hn hp h hi (j - i) (by omega)
  have b := least_of_sw hn hp h hj (n - (j - i)) (by omega)
  rw [show i + 1 + (j - i) = j + 1 by omega] at a
  rw [show j + 1 + (n - (j - i)) = i + 1 + n by omega, hp] at b
  have ne := glob_ne hn h (i + 1) (j - i) (by omega) (by omega)
  rw [show i + 1 + (j - i) = j + 1 by omega] at ne
  rcases lt2_total _ _ ne with q | q
  · exact b q
  · exact a q
/-- There is a least corner. -/
theorem least_ex (P : Nat → Int × Int) : ∀ n, 0 < n → ∃ m, m < n ∧ ∀ j, j < n → ¬ lt2 (P j) (P m)
  | 0, h => absurd h (by omega)
  | 1, _ => ⟨0, by omega, fun j hj => by rw [show j = 0 by omega]; exact lt2_irrefl _⟩
  | n + 2, _ => by
    obtain ⟨m, hm, hl⟩ := least_ex P (n + 1) (by omega)
    by_cases q : lt2 (P (n + 1)) (P m)
    · refine ⟨n + 1, by omega, fun j hj k => ?_⟩
      by_cases e : j = n + 1
      · subst e; exact lt2_irrefl _ k
      · exact hl j (by omega) (lt2_trans k q)
    · refine ⟨m, by omega, fun j hj k => ?_⟩
      by_cases e : j = n + 1
      · subst e; exact q k
      · exact hl j (by omega) k
theorem sw_ex {P : Nat → Int × Int} {n : Nat} (hn : 3 ≤ n) (hp : Per P n) (h : Glob P n) : ∃ i, i < n ∧ Sw P i := by
  obtain ⟨m, hm, hl⟩ := least_ex P n (by omega)
  have hp1 : ∀ i, 1 ≤ i → i ≤ n → ¬ lt2 (P i) (P m) := fun i h1 h2 => by
    by_cases e : i = n
    · have := hp 0
      rw [Nat.zero_add] at this
      rw [e, this]
      exact hl 0 (by omega)
    · exact hl i (by omega)
  by_cases m0 : m = 0
  · subst m0
    refine ⟨n - 1, by omega, fun k => ?_, ?_⟩
    · have := hp 0
      rw [show n - 1 + 1 = 0 + n by omega, hp] at k
      exact hl (n - 1) (by omega) k
    · rw [show n - 1 + 1 = 0 + n by omega, show n - 1 + 2 = 1 + n by omega, hp, hp]
      exact (lt2_total _ _ (glob_ne hn h 0 1 (by omega) (by omega))).resolve_right (hl 1 (by omega))
  · refine ⟨m - 1, by omega, fun k => ?_, ?_⟩
    · rw [show m - 1 + 1 = m by omega] at k
      exact hl (m - 1) (by omega) k
    · rw [show m - 1 + 1 = m by omega, show m - 1 + 2 = m + 1 by omega]
      exact (lt2_total _ _ (glob_ne hn h m 1 (by omega) (by omega))).resolve_right (hp1 (m + 1) (by omega) (by omega))
/-- The cross of two directions. -/
def X (a b : Int × Int) : Int := a.1 * b.2 - a.2 * b.1
/-- A direction that leads up. -/
def Up (a : Int × Int) : Prop := 0 < a.2 ∨ (a.2 = 0 ∧ 0 < a.1)
def ng (a : Int × Int) : Int × Int := (-a.1, -a.2)
theorem up_tri {a b c : Int × Int} (ha : Up a) (hb : Up b) (hc : Up c) (h1 : 0 ≤ X a b) (h2 : 0 ≤ X b c) (h3 : 0 < X a b ∨ 0 < X b c) : 0 < X a c := by
  obtain ⟨ax, ay⟩ := a
  obtain ⟨bx, by_⟩ := b
  obtain ⟨cx, cy⟩ := c
  simp only [X, Up] at *
  have ey : (ax * cy - ay * cx) * by_ = (ax * by_ - ay * bx) * cy + (bx * cy - by_ * cx) * ay := by grind
  have ex : (ax * cy - ay * cx) * bx = (ax * by_ - ay * bx) * cx + (bx * cy - by_ * cx) * ax := by grind
  obtain ⟨p, hp⟩ : ∃ p, ax * by_ - ay * bx = p := ⟨_, rfl⟩
  obtain ⟨q, hq⟩ : ∃ q, bx * cy - by_ * cx = q := ⟨_, rfl⟩
  rw [hp] at ey ex h1 h3
  rw [hq] at ey ex h2 h3
  generalize ax * cy - ay * cx = r at *
  have n1 := Int.mul_nonneg h1 (show 0 ≤ cy by omega)
  have n2 := Int.mul_nonneg h2 (show 0 ≤ ay by omega)
  rcases hb with hb | ⟨hb0, hb1⟩
  · have : 0 < r * by_ ∨ (p * cy = 0 ∧ q * ay = 0) := by omega
    rcases this with k | ⟨k1, k2⟩
    · exact pos_of_mul hb (by rw [Int.mul_comm]; exact k)
    · exfalso
      by_cases hp0 : 0 < p
      · have c0 : cy = 0 := (Int.mul_eq_zero.1 k1).resolve_left (by omega)
        have := Int.mul_pos hb (show 0 < cx by omega)
        rw [c0, Int.mul_zero] at hq
        omega
      · have a0 : ay = 0 := (Int.mul_eq_zero.1 k2).resolve_left (by omega)
        have := Int.mul_pos (show 0 < ax by omega) hb
        rw [a0, Int.zero_mul] at hp
        omega
  · subst hb0
    rw [Int.mul_zero] at hp
    have hay : ay = 0 := by
      rcases ha with ha | ha
      · have := Int.mul_pos ha hb1
        omega
      · exact ha.1
    have hp0 : p = 0 := by rw [hay, Int.zero_mul] at hp; omega
    have hax : 0 < ax := by omega
    have hq0 : 0 < q := by omega
    have := Int.mul_pos hq0 hax
    rw [hp0, Int.zero_mul] at ex
    exact pos_of_mul hb1 (by rw [Int.mul_comm]; omega)
theorem X_ng_right (a b : Int × Int) : X a (ng b) = - X a b := by simp only [X, ng]; grind
theorem X_ng_left (a b : Int × Int) : X (ng a) b = - X a b := by simp only [X, ng]; grind
theorem X_anti (a b : Int × Int) : X b a = - X a b := by simp only [X]; grind
/-- A fan of directions: up, then down, then up again till the first: seen from the first they are on the left, then on the right. -/
theorem fan {v : Nat → Int × Int} {n a c : Nat} (ha : 1 ≤ a) (hac : a ≤ c) (hcn : c ≤ n) (hv : ∀ k, k < n → 0 < X (v k) (v (k + 1))) (hn : v n = v 0)
    (hA : ∀ k, k < a → Up (v k)) (hB : ∀ k, a ≤ k → k < c → Up (ng (v k))) (hC : ∀ k, c ≤ k → k ≤ n → Up (v k)) {k k' : Nat} (h1 : 1 ≤ k) (hk : k < k') (hk' : k' < n) (hx : X (v 0) (v k) ≤ 0) : X (v 0) (v k') < 0 := by
  have pA : ∀ k, 1 ≤ k → k < a → 0 < X (v 0) (v k) := by
    intro k h1
    induction k with
    | zero => omega
    | succ k ih =>
      intro hk
      by_cases k0 : k = 0
      · subst k0; exact hv 0 (by omega)
      · have := ih (by omega) (by omega)
        exact up_tri (hA 0 (by omega)) (hA k (by omega)) (hA (k + 1) hk) (by omega) (Int.le_of_lt (hv k (by omega))) (.inl this)
  have pC : ∀ d k, k + d = n → c ≤ k → k < n → X (v 0) (v k) < 0 := by
    intro d
    induction d with
    | zero => intro k h1 h2 h3; omega
    | succ d ih =>
      intro k e h2 h3
      by_cases kn : k + 1 = n
      · have := hv k h3
        rw [kn, hn, X_anti] at this
        omega
      · have := ih (k + 1) (by omega) (by omega) (by omega)
        have u0 : Up (v 0) := by rw [← hn]; exact hC n hcn (Nat.le_refl _)
        have := up_tri (hC k h2 (by omega)) (hC (k + 1) (by omega) (by omega)) u0 (Int.le_of_lt (hv k h3)) (by rw [X_anti]; omega) (.inl (hv k h3))
        rw [X_anti] at this
        omega
  have hka : a ≤ k := by
    refine Classical.byContradiction fun h => ?_
    have := pA k h1 (by omega)
    omega
  have pB : ∀ d, k + 1 + d < c → X (v 0) (v (k + 1 + d)) < 0 := by
    intro d
    induction d with
    | zero =>
      intro h
      have := up_tri (hA 0 (by omega)) (hB k hka (by omega)) (hB (k + 1) (by omega) (by omega)) (by rw [X_ng_right]; omega) (by rw [X_ng_right, X_ng_left]; have := hv k (by omega); omega) (.inr (by rw [X_ng_right, X_ng_left]; have := hv k (by omega); omega))
      rw [X_ng_right] at this
      simpa using (by omega : X (v 0) (v (k + 1)) < 0)
    | succ d ih =>
      intro h
      have i1 := ih (by omega)
      have := up_tri (hA 0 (by omega)) (hB (k + 1 + d) (by omega) (by omega)) (hB (k + 1 + d + 1) (by omega) (by omega)) (by rw [X_ng_right]; omega) (by rw [X_ng_right, X_ng_left]; have := hv (k + 1 + d) (by omega); omega) (.inl (by rw [X_ng_right]; omega))
      rw [X_ng_right] at this
      exact (by omega : X (v 0) (v (k + 1 + d + 1)) < 0)
  by_cases q : c ≤ k'
  · exact pC (n - k') k' (by omega) q hk'
  · have := pB (k' - (k + 1)) (by omega)
    rwa [show k + 1 + (k' - (k + 1)) = k' by omega] at this
theorem least_nat (p : Nat → Prop) : ∀ n, p n → ∃ m, m ≤ n ∧ p m ∧ ∀ k, k < m → ¬ p k
  | 0, h => ⟨0, Nat.le_refl _, h, fun k hk => absurd hk (by omega)⟩
  | n + 1, h => by
    rcases Classical.em (∃ k, k ≤ n ∧ p k) with ⟨k, hk, hp⟩ | q
    · obtain ⟨m, h1, h2, h3⟩ := least_nat p k hp
      exact ⟨m, by omega, h2, h3⟩
    · exact ⟨n + 1, Nat.le_refl _, h, fun k hk hp => q ⟨k, by omega, hp⟩⟩
termination_by n => n
decreasing_by omega
theorem sw_between {P : Nat → Int × Int} (e : Nat) (h1 : ¬ lt2 (P e) (P (e + 1))) : ∀ d, lt2 (P (e + d)) (P (e + d + 1)) → ∃ g, e ≤ g ∧ g < e + d ∧ Sw P g
  | 0, h => absurd h h1
  | d + 1, h => by
    by_cases q : lt2 (P (e + d)) (P (e + d + 1))
    · obtain ⟨g, a, b, c⟩ := sw_between e h1 d q
      exact ⟨g, a, by omega, c⟩
    · exact ⟨e + d, by omega, by omega, q, h⟩
def dir (P : Nat → Int × Int) (e : Nat) : Int × Int := ((P (e + 1)).1 - (P e).1, (P (e + 1)).2 - (P e).2)
theorem up_dir (P : Nat → Int × Int) (e : Nat) : Up (dir P e) ↔ lt2 (P e) (P (e + 1)) := by simp only [Up, dir, lt2]; omega
theorem X_dir (P : Nat → Int × Int) (e : Nat) : X (dir P e) (dir P (e + 1)) = cr3 (P e) (P (e + 1)) (P (e + 2)) := by simp only [X, dir, cr3]; grind
theorem cr3_step (P : Nat → Int × Int) (i j : Nat) : cr3 (P i) (P (i + 1)) (P (i + (j + 1))) = cr3 (P i) (P (i + 1)) (P (i + j)) + X (dir P i) (dir P (i + j)) := by
  rw [show i + (j + 1) = i + j + 1 by omega]
  simp only [X, dir, cr3]; grind
theorem down_dir {P : Nat → Int × Int} (hl : ∀ i, 0 < cr3 (P i) (P (i + 1)) (P (i + 2))) {e : Nat} (h : ¬ lt2 (P e) (P (e + 1))) : Up (ng (dir P e)) := by
  have ne : P e ≠ P (e + 1) := fun q => by
    have := hl e
    rw [← q, cr3_eq] at this
    omega
  have := (lt2_total _ _ ne).resolve_left h
  simp only [Up, ng, dir, lt2] at *
  omega
theorem sum_pos {f x : Nat → Int} {n : Nat} (h1 : f 1 = 0) (hn : f n = 0) (hs : ∀ k, f (k + 1) = f k + x k) (hu : ∀ k k', 1 ≤ k → k < k' → k' < n → x k ≤ 0 → x k' < 0) {j : Nat} (hj : 2 ≤ j) (hjn : j < n) : 0 < f j := by
  rcases Classical.em (∃ k, 1 ≤ k ∧ k < j ∧ x k ≤ 0) with ⟨k, k1, k2, k3⟩ | q
  · have : ∀ d, j + d ≤ n → f (j + d) ≤ f j - d := by
      intro d
      induction d with
      | zero => intro _; simp
      | succ d ih =>
        intro h
        have a := ih (by omega)
        have b := hu k (j + d) k1 (by omega) (by omega) k3
        have c := hs (j + d)
        rw [show j + (d + 1) = j + d + 1 by omega]
        omega
    have := this (n - j) (by omega)
    rw [show j + (n - j) = n by omega, hn] at this
    omega
  · have : ∀ d, d + 2 ≤ j → 0 < f (d + 2) := by
      intro d
      induction d with
      | zero =>
        intro h
        have a := hs 1
        have : ¬ x 1 ≤ 0 := fun p => q ⟨1, by omega, by omega, p⟩
        show 0 < f 2
        rw [show (2 : Nat) = 1 + 1 by omega, a]
        omega
      | succ d ih =>
        intro h
        have a := ih (by omega)
        have b : ¬ x (d + 2) ≤ 0 := fun p => q ⟨d + 2, by omega, by omega, p⟩
        have c := hs (d + 2)
        show 0 < f (d + 2 + 1)
        omega
    have := this (j - 2) (by omega)
    rwa [show j - 2 + 2 = j by omega] at this
theorem glob_of {P : Nat → Int × Int} {n : Nat} (hn : 3 ≤ n) (hp : Per P n) (hl : ∀ i, 0 < cr3 (P i) (P (i + 1)) (P (i + 2))) (he : ∃ s, s < n ∧ Sw P s) (hu : ∀ i j, Sw P i → Sw P j → i ≤ j → j < i + n → i = j) : Glob P n := by
  intro i j hj hjn
  have pd : ∀ e, dir P (e + n) = dir P e := fun e => by
    simp only [dir]
    rw [show e + n + 1 = e + 1 + n by omega, hp, hp]
  have pl : ∀ e, lt2 (P (e + n)) (P (e + n + 1)) ↔ lt2 (P e) (P (e + 1)) := fun e => by
    rw [show e + n + 1 = e + 1 + n by omega, hp, hp]
  have hfan : ∀ k k', 1 ≤ k → k < k' → k' < n → X (dir P i) (dir P (i + k)) ≤ 0 → X (dir P i) (dir P (i + k')) < 0 := by
    obtain ⟨s, hs, hsw⟩ := he
    -- a switch at or behind i, within one turn
    obtain ⟨g, hg1, hg2, hgs⟩ : ∃ g, i ≤ g ∧ g < i + n ∧ Sw P g := by
      have hper : ∀ t e, Sw P e → Sw P (e + t * n) := by
        intro t
        induction t with
        | zero => intro e h; simpa using h
        | succ t ih =>
          intro e h
          have := ih e h
          rw [show e + (t + 1) * n = e + t * n + n by rw [Nat.add_mul]; omega]
          refine ⟨fun q => this.1 ((pl _).1 q), ?_⟩
          have h2 := (pl (e + t * n + 1)).2 this.2
          rw [show e + t * n + n + 1 = e + t * n + 1 + n by omega, show e + t * n + n + 2 = e + t * n + 1 + n + 1 by omega]
          exact h2
      obtain ⟨m, m1, m2, m3⟩ := least_nat (fun t => i ≤ s + t * n) i (by
        have : i * 1 ≤ i * n := Nat.mul_le_mul_left _ (by omega)
        omega)
      refine ⟨s + m * n, m2, ?_, hper m s hsw⟩
      by_cases m0 : m = 0
      · subst m0; simp at m2 ⊢; omega
      · have := m3 (m - 1) (by omega)
        have e : m * n = (m - 1) * n + n := by
          conv => lhs; rw [show m = (m - 1) + 1 by omega, Nat.add_mul]
          omega
        omega
    intro k k' h1 h2 h3 hx
    by_cases ui : lt2 (P i) (P (i + 1))
    · have gi : g ≠ i := fun e => hgs.1 (by rw [e]; exact ui)
      obtain ⟨a, a1, a2, a3⟩ := least_nat (fun a => ¬ lt2 (P (i + a)) (P (i + a + 1))) (g - i) (by rw [show i + (g - i) = g by omega]; exact hgs.1)
      have a0 : 1 ≤ a := by
        refine Classical.byContradiction fun q => a2 ?_
        rw [show a = 0 by omega]; exact ui
      obtain ⟨c, c1, ⟨c2, c3⟩, c4⟩ := least_nat (fun c => a ≤ c ∧ lt2 (P (i + c)) (P (i + c + 1))) n ⟨by omega, (pl i).2 ui⟩
      have hac : a < c := by
        refine Classical.byContradiction fun q => a2 ?_
        rw [show a = c by omega]; exact c3
      have swc : Sw P (i + c - 1) := ⟨fun q => c4 (c - 1) (by omega) ⟨by omega, by rw [show i + (c - 1) = i + c - 1 by omega]; exact q⟩, by rw [show i + c - 1 + 1 = i + c by omega, show i + c - 1 + 2 = i + c + 1 by omega]; exact c3⟩
      refine fan (v := fun k => dir P (i + k)) (a := a) (c := c) a0 (by omega) c1 (fun k _ => by rw [show i + (k + 1) = i + k + 1 by omega, X_dir]; exact hl _) (pd i) (fun k hk => (up_dir _ _).2 (Classical.byContradiction fun q => a3 k hk q)) (fun k q1 q2 => down_dir hl (fun q => c4 k q2 ⟨q1, q⟩)) (fun k q1 q2 => (up_dir _ _).2 (Classical.byContradiction fun q => ?_)) h1 h2 h3 hx
      have kn : k ≠ n := fun e => q (by rw [e]; exact (pl i).2 ui)
      obtain ⟨g2, b1, b2, b3⟩ := sw_between (i + k) q (n - k) (by rw [show i + k + (n - k) = i + n by omega]; exact (pl i).2 ui)
      have := hu _ _ swc b3 (by omega) (by omega)
      omega
    · obtain ⟨a, a1, a2, a3⟩ := least_nat (fun a => lt2 (P (i + a)) (P (i + a + 1))) (g + 1 - i) (by rw [show i + (g + 1 - i) = g + 1 by omega]; exact hgs.2)
      have a0 : 1 ≤ a := by
        refine Classical.byContradiction fun q => ui ?_
        rw [show a = 0 by omega] at a2; exact a2
      have an : a < n := by
        refine Classical.byContradiction fun q => ui ?_
        have : a = n := by omega
        rw [this] at a2
        exact (pl i).1 a2
      have swa : Sw P (i + a - 1) := ⟨fun q => a3 (a - 1) (by omega) (by rw [show i + (a - 1) = i + a - 1 by omega]; exact q), by rw [show i + a - 1 + 1 = i + a by omega, show i + a - 1 + 2 = i + a + 1 by omega]; exact a2⟩
      obtain ⟨c, c1, ⟨c2, c3⟩, c4⟩ := least_nat (fun c => a ≤ c ∧ ¬ lt2 (P (i + c)) (P (i + c + 1))) n ⟨by omega, fun q => ui ((pl i).1 q)⟩
      have := fan (v := fun k => ng (dir P (i + k))) (n := n) (a := a) (c := c) (k := k) (k' := k') a0 c2 c1 (fun k _ => by simp only [X_ng_left, X_ng_right]; rw [show i + (k + 1) = i + k + 1 by omega, X_dir]; have := hl (i + k); omega) (by simp only [Nat.add_zero, pd]) (fun k hk => down_dir hl (a3 k hk)) (fun k q1 q2 => by
          have : lt2 (P (i + k)) (P (i + k + 1)) := Classical.byContradiction fun q => c4 k q2 ⟨q1, q⟩
          have := (up_dir P (i + k)).2 this
          simpa [ng] using this) (fun k q1 q2 => down_dir hl (fun q => by
          obtain ⟨g2, b1, b2, b3⟩ := sw_between (i + c) c3 (k - c) (by rw [show i + c + (k - c) = i + k by omega]; exact q)
          have kn : k ≠ n := fun e => ui ((pl i).1 (by rw [← e]; exact q))
          have := hu _ _ swa b3 (by omega) (by omega)
          omega)) h1 h2 h3 (by simp only [X_ng_left, X_ng_right, Nat.add_zero]; omega)
      simp only [X_ng_left, X_ng_right, Nat.add_zero] at this
      omega
  refine sum_pos (f := fun j => cr3 (P i) (P (i + 1)) (P (i + j))) (x := fun k => X (dir P i) (dir P (i + k))) (cr3_abb _ _) ?_ (fun k => cr3_step P i k) hfan hj hjn
  show cr3 (P i) (P (i + 1)) (P (i + n)) = 0
  rw [hp, cr3_aab]
end Go.Proofs.Ythogemdknlpnpaa.Geo
