import Derived.Test.YtgacodhpniehiaaXAx0
import Derived.Test.YtgacodhpniehiaaXAx3
import Derived.Test.YtgacodhpniehiaaXAx7
import Derived.Test.YtgacodhpniehiaaXAx9
import Derived.Test.YtgacodhpniehiaaHc2
import Derived.Test.YtgacodhpniehiaaFlat
namespace Go.Proofs.Ytgacodhpniehiaa.XA
open Go.RowKit Go.Proofs.Ytgacodhpniehiaa.Opens Go.Proofs.Ytgacodhpniehiaa.Flat Go.Proofs.YtgacodhpniehiaaW.PrintWords Go.Proofs.YtgacodhpniehiaaW.PrintLast Go.Proofs.YtgacodhpniehiaaW.PrintMore
attribute [local go_sem] max2_int min2_int max_two min_two max_three min_three max_four min_four cell_some cell_same
set_option linter.unusedVariables false
set_option linter.unusedSimpArgs false

def bp_.T1 : Bool × List (List Nat × List Nat) := (true, [([], []), ([], []), ([], []), ([1, 2], [1, 2]), ([0, 3], [0, 3]), ([4], [4]), ([], []), ([6, 5, 3, 0, 1, 2, 3, 4, 5, 6], [5, 6])])
def bp_.B1 : List Nat := [0, 0, 0, 6, 15, 31, 0, 127]
theorem bp_.tab1 : rtab .any (opsOf Try.f46 1) = bp_.T1 := by kernel_rfl
theorem bp_.bits1 : waitsOk bp_.T1.2 bp_.B1 = true := by kernel_rfl
def bp_.T8 : Bool × List (List Nat × List Nat) := (true, [([], []), ([0], [0]), ([1], [1]), ([], []), ([2, 3, 2], [2, 3]), ([4, 4], [4]), ([5], [5]), ([6, 5], [5, 6]), ([5], [5]), ([7, 8, 5], [5, 7, 8]), ([5, 9], [5, 9])])
def bp_.B8 : List Nat := [0, 1, 3, 0, 15, 31, 63, 127, 63, 511, 1023]
theorem bp_.tab8 : rtab .any (opsOf Try.f46 8) = bp_.T8 := by kernel_rfl
theorem bp_.bits8 : waitsOk bp_.T8.2 bp_.B8 = true := by kernel_rfl
theorem bf7_ {W : World} {g b : Nat} {t_ : TypeId} {cs_ : Array Value} {u0 u1 u2 u3 u4 u5 u6 : Value} (h : Aside0 (W.heap[g]? = some (.cells cs_ t_ (0, 0)))) (n : Aside0 (g ≠ b)) : Aside0 ((((((((W.setCell ⟨b, 0, none⟩ (u0)).setCell ⟨b, 1, none⟩ (u1)).setCell ⟨b, 2, none⟩ (u2)).setCell ⟨b, 3, none⟩ (u3)).setCell ⟨b, 4, none⟩ (u4)).setCell ⟨b, 5, none⟩ (u5)).setCell ⟨b, 6, none⟩ (u6)).heap[g]? = some (.cells cs_ t_ (0, 0))) := ⟨blk_far (blk_far (blk_far (blk_far (blk_far (blk_far (blk_far h.1 n.1 _) n.1 _) n.1 _) n.1 _) n.1 _) n.1 _) n.1 _⟩
theorem bp7_ {W : World} {b : Nat} {t_ : TypeId} {z0 z1 z2 z3 z4 z5 z6 u0 u1 u2 u3 u4 u5 u6 : Value} (h : Aside0 (W.heap[b]? = some (.cells #[z0, z1, z2, z3, z4, z5, z6] t_ (0, 0)))) : Aside0 ((((((((W.setCell ⟨b, 0, none⟩ (u0)).setCell ⟨b, 1, none⟩ (u1)).setCell ⟨b, 2, none⟩ (u2)).setCell ⟨b, 3, none⟩ (u3)).setCell ⟨b, 4, none⟩ (u4)).setCell ⟨b, 5, none⟩ (u5)).setCell ⟨b, 6, none⟩ (u6)).heap[b]? = some (.cells #[u0, u1, u2, u3, u4, u5, u6] t_ (0, 0))) := ⟨blk_put (cs := #[u0, u1, u2, u3, u4, u5, z6]) (blk_put (cs := #[u0, u1, u2, u3, u4, z5, z6]) (blk_put (cs := #[u0, u1, u2, u3, z4, z5, z6]) (blk_put (cs := #[u0, u1, u2, z3, z4, z5, z6]) (blk_put (cs := #[u0, u1, z2, z3, z4, z5, z6]) (blk_put (cs := #[u0, z1, z2, z3, z4, z5, z6]) (blk_put (cs := #[z0, z1, z2, z3, z4, z5, z6]) h.1 0 _ rfl) 1 _ rfl) 2 _ rfl) 3 _ rfl) 4 _ rfl) 5 _ rfl) 6 _ rfl⟩
theorem hb7_ {w W : World} {b : Nat} {u0 u1 u2 u3 u4 u5 u6 : Value} (h : Aside0 (Below w.heap.size w W)) (e : Aside0 (w.heap.size ≤ b)) : Aside0 (Below w.heap.size w (((((((W.setCell ⟨b, 0, none⟩ (u0)).setCell ⟨b, 1, none⟩ (u1)).setCell ⟨b, 2, none⟩ (u2)).setCell ⟨b, 3, none⟩ (u3)).setCell ⟨b, 4, none⟩ (u4)).setCell ⟨b, 5, none⟩ (u5)).setCell ⟨b, 6, none⟩ (u6))) := ⟨below_set (below_set (below_set (below_set (below_set (below_set (below_set h.1 e.1) e.1) e.1) e.1) e.1) e.1) e.1⟩
theorem drop56 (xs : List S56) (x : Int) (h0 : 0 ≤ x) (h1 : x < (xs.length : Int)) : xs.drop x.toNat = rd_T56 xs x :: xs.drop (x.toNat + 1) := by
  have hl : x.toNat < xs.length := by omega
  rw [List.drop_eq_getElem_cons hl, rd_T56, List.getD_eq_getElem?_getD, List.getElem?_eq_getElem hl]
  rfl
theorem fits_eq (a b : S23) : boxpack_fits.f a.f0 a.f1 a.f2 b.f0 b.f1 b.f2 = some (fitsB a b) := by
  unfold boxpack_fits.f fitsB
  by_cases h0 : a.f0 ≤ b.f0 <;> by_cases h1 : a.f1 ≤ b.f1 <;> simp [h0, h1]
theorem cutsL_ax {kf : Int} {s : S23} {c : Ct} (h : c ∈ cutsL kf s) : c.ax = 0 ∨ c.ax = 1 ∨ c.ax = 2 := by
  simp only [cutsL, cutsA, List.mem_append, List.mem_map] at h
  rcases h with ⟨i, _, rfl⟩ | ⟨i, _, rfl⟩ | ⟨i, _, rfl⟩ <;> simp
set_option maxHeartbeats 1000000 in
theorem best_cuts {w0 w1 : World} {g16 g24 g32 gU : Nat} {A16_0 : Option Addr} {c16_0 : Nat} {s16_0 : List Int} {s24_0 s24_1 s24_2 s24_3 : Int} {A24_4 : Option Addr} {c24_4 : Nat} {s24_4 : List S56} (hc : PCtx w0 w1 g16 g24 g32 gU A16_0 c16_0 s16_0 s24_0 s24_1 s24_2 s24_3 A24_4 c24_4 s24_4) (n : Nat) (ih : ∀ L fr s L', putF s24_0 s24_1 s24_3 s24_4 s16_0 n L fr s = some L' → Puts w1 g16 g24 g32 gU L fr s L') (L L' : List S61) (a0_0 a0_1 a0_2 a1_0 a1_1 a1_2 b : Int) (gB gF : Nat) (hgB : w1.heap.size ≤ gB) (hgF : w1.heap.size ≤ gF) (hcut : cutOk s24_0 s24_1 s24_3 s16_0 ⟨a1_0, a1_1, a1_2⟩ = true) (hL : L.length < 100000)
    (h : (match (cutsL s24_3 ⟨a1_0, a1_1, a1_2⟩).find? (fun c => decide (both s24_0 s24_1 s16_0 c = b)) with
          | none => some L
          | some c => (putF s24_0 s24_1 s24_3 s24_4 s16_0 n (L ++ [cutN ⟨a0_0, a0_1, a0_2⟩ s24_3 c L.length]) ⟨a0_0, a0_1, a0_2⟩ c.l).bind fun L1 =>
              if L.length < L1.length ∧ L1.length < 100000 then putF s24_0 s24_1 s24_3 s24_4 s16_0 n (setR L1 L.length (L1.length : Int)) (behindS ⟨a0_0, a0_1, a0_2⟩ s24_3 c) c.r else none) = some L')
    (w : World) (hI : PInv w1 g32 L w) (bB : w.heap[gB]? = some (.cells #[.int .i64 b] 2 (0, 0))) (bF : w.heap[gF]? = some (.cells #[.int .i64 a0_0, .int .i64 a0_1, .int .i64 a0_2] 64 (0, 0))) :
    Calls Try.prog 48 #[.agg #[.int .i64 s24_0, .int .i64 s24_1, .int .i64 s24_2, .int .i64 s24_3, .slice A24_4 s24_4.length c24_4], .agg #[.int .i64 a1_0, .int .i64 a1_1, .int .i64 a1_2], .func (.func 49) #[] #[.pointer (some ⟨g16, 0, none⟩), .pointer (some ⟨g24, 0, none⟩), .pointer (some ⟨gB, 0, none⟩), .pointer (some ⟨g32, 0, none⟩), .pointer (some ⟨gF, 0, none⟩), .pointer (some ⟨gU, 0, none⟩)]] w fun e w' => e = .returned (.tuple #[]) ∧ PInv w1 g32 L' w' ∧ Own w1.heap.size w w' := by
  have hco := hcut
  simp only [cutOk, Bool.and_eq_true, decide_eq_true_eq, List.all_eq_true] at hco
  obtain ⟨⟨⟨hk0, hk1⟩, hs0, hs1, hs2⟩, hall⟩ := hco
  refine (cuts49.calls s24_0 s24_1 s24_2 s24_3 A24_4 s24_4.length c24_4 a1_0 a1_1 a1_2 g16 g24 gB g32 gF gU
    (fun pre X => PInv w1 g32 L X ∧ (∀ c ∈ pre, ¬ both s24_0 s24_1 s16_0 c = b) ∧ X.heap[gB]? = some (.cells #[.int .i64 b] 2 (0, 0)) ∧ X.heap[gF]? = some (.cells #[.int .i64 a0_0, .int .i64 a0_1, .int .i64 a0_2] 64 (0, 0)) ∧ Own w1.heap.size w X)
    (fun _ X => PInv w1 g32 L' X ∧ Own w1.heap.size w X) w hk0 hk1 hs0 hs1 hs2 ?_ ?_ ⟨hI, by simp, bB, bF, Own.refl _ _⟩).mono ?_
  · rintro pre X Y ⟨h1, h2, h3, h4, h5⟩ hb
    exact ⟨h1.keep hc hb, h2, blk_below h3 hb, blk_below h4 hb, h5.trans (Own.below hb)⟩
  · rintro pre c rest X hcl ⟨h1, h2, h3, h4, h5⟩
    have hmem : c ∈ cutsL s24_3 ⟨a1_0, a1_1, a1_2⟩ := by rw [hcl]; simp
    have hok := hall c hmem
    refine (best_visit hc gB gF hgB hgF c.ax c.pos c.l.f0 c.l.f1 c.l.f2 c.r.f0 c.r.f1 c.r.f2 b a0_0 a0_1 a0_2 L L' X h1 h3 h4 (cutsL_ax hmem) hok.1 hok.2 hL ?_).mono ?_
    · intro hb
      have hb' : both s24_0 s24_1 s16_0 c = b := hb
      have hf : (cutsL s24_3 ⟨a1_0, a1_1, a1_2⟩).find? (fun c => decide (both s24_0 s24_1 s16_0 c = b)) = some c := by
        rw [hcl, List.find?_append, List.find?_eq_none.2 (fun x hx => by simpa using h2 x hx), List.find?_cons_of_pos (by simpa using hb')]
        rfl
      rw [hf] at h
      obtain ⟨L1, e1, e2⟩ := Option.bind_eq_some_iff.1 h
      by_cases hl : L.length < L1.length ∧ L1.length < 100000
      · rw [if_pos hl] at e2
        exact ⟨L1, ih _ _ _ _ e1, hl.1, hl.2, ih _ _ _ _ e2⟩
      rw [if_neg hl] at e2
      exact absurd e2 (by simp)
    rintro e Y (⟨rfl, hn, hb⟩ | ⟨rfl, hb, hp, ho⟩)
    · refine ⟨.inl ⟨rfl, h1.keep hc hb, fun x hx => ?_, blk_below h3 hb, blk_below h4 hb, h5.trans (Own.below hb)⟩, Own.below hb⟩
      rcases List.mem_append.1 hx with hx | hx
      · exact h2 x hx
      rw [List.mem_singleton.1 hx]
      exact hn
    exact ⟨.inr ⟨rfl, hp, h5.trans ho⟩, ho.mono hI.size⟩
  rintro e Y ⟨rfl, h1 | ⟨pre, c, rest, hcl, h1⟩⟩
  · have hf : (cutsL s24_3 ⟨a1_0, a1_1, a1_2⟩).find? (fun c => decide (both s24_0 s24_1 s16_0 c = b)) = none := List.find?_eq_none.2 (fun x hx => by simpa using h1.2.1 x hx)
    rw [hf] at h
    obtain rfl := Option.some.inj h
    exact ⟨rfl, h1.1, h1.2.2.2.2⟩
  exact ⟨rfl, h1.1, h1.2⟩
set_option maxHeartbeats 8000000 in
set_option maxRecDepth 100000 in
theorem best_put {w0 w1 : World} {g16 g24 g32 gU : Nat} {A16_0 : Option Addr} {c16_0 : Nat} {s16_0 : List Int} {s24_0 s24_1 s24_2 s24_3 : Int} {A24_4 : Option Addr} {c24_4 : Nat} {s24_4 : List S56} (hc : PCtx w0 w1 g16 g24 g32 gU A16_0 c16_0 s16_0 s24_0 s24_1 s24_2 s24_3 A24_4 c24_4 s24_4) (n : Nat) (ih : ∀ L fr s L', putF s24_0 s24_1 s24_3 s24_4 s16_0 n L fr s = some L' → Puts w1 g16 g24 g32 gU L fr s L') (L : List S61) (a0_0 a0_1 a0_2 a1_0 a1_1 a1_2 : Int) (L' : List S61) (h : putF s24_0 s24_1 s24_3 s24_4 s16_0 (n + 1) L ⟨a0_0, a0_1, a0_2⟩ ⟨a1_0, a1_1, a1_2⟩ = some L') (w : World) (hI : PInv w1 g32 L w) :
    Calls Try.prog 46 #[.agg #[.int .i64 a0_0, .int .i64 a0_1, .int .i64 a0_2], .agg #[.int .i64 a1_0, .int .i64 a1_1, .int .i64 a1_2], .pointer (some ⟨g16, 0, none⟩), .pointer (some ⟨g24, 0, none⟩), .pointer (some ⟨g32, 0, none⟩), .pointer (some ⟨gU, 0, none⟩)] w fun e w' => e = .returned (.tuple #[]) ∧ PInv w1 g32 L' w' ∧ Own w1.heap.size w w' := by
  have hu64 := Try.underlying64
  have hu33 := Try.underlying33
  have hu2 := Try.underlying2
  have hu56 := Try.underlying56
  have hu23 := Try.underlying23
  have hu61 := Try.underlying61
  obtain ⟨A56_0, c56_0, bL, rL⟩ := hI.pl
  have BK16 := ak (hI.get hc hc.bT (by decide))
  have BK24 := ak (hI.get hc hc.bP (by decide))
  have BK32 := ak bL
  clear bL
  have HR16_0 := ak (Kd.C_below hc.rT (hI.below0 hc))
  have HC16_0 := ak hc.cT
  have HR24_4 := ak (Kd.C_below hc.rI (hI.below0 hc))
  have HC24_4 := ak hc.cI
  have HB := ak (Below.refl w.heap.size w)
  rw [putF] at h
  have hg_ : ixOk s24_0 s24_1 s16_0 ⟨a1_0, a1_1, a1_2⟩ = true ∧ cutOk s24_0 s24_1 s24_3 s16_0 ⟨a1_0, a1_1, a1_2⟩ = true ∧ s24_4.length < 1000 ∧ L.length < 100000 := Classical.byContradiction fun hn => by rw [if_neg hn] at h; exact absurd h (by simp)
  rw [if_pos hg_] at h
  obtain ⟨hx1, hcut, hlen, hL⟩ := hg_
  replace hlen := ak hlen
  obtain ⟨t182, et182⟩ : ∃ t, t = ixS s24_0 s24_1 ⟨a1_0, a1_1, a1_2⟩ := ⟨_, rfl⟩
  have A6 : Aside0 (boxpack_Problem_index.f s24_0 s24_1 s24_2 s24_3 s24_4 a1_0 a1_1 a1_2 = some t182) := ⟨by rw [et182]; rfl⟩
  have p183 : 0 ≤ t182 ∧ t182 < (s16_0.length : Int) := by simpa [ixOk, ← et182] using hx1
  rw [← et182] at h
  clear hx1 et182
  obtain ⟨p183, q183⟩ := p183
  replace hL := ak hL
  (go_enter Try.func46, Try.ntmps46); (try go_wp2_with (first | ((with_reducible refine gate_dst (N := 6) rfl ?_); refine bx_ 6 #[.int .i64 a0_0, .int .i64 a0_1, .int .i64 a0_2] 64 ?_; intro gb180 hg w38 hbox hb; have BK180 := ak (hbox); have GW180 := gw_ HB hg; have GE180 := gw_ HB hg; replace HB := hs_ HB hb; have NB16_180 := nl_ BK16 hg; have NB180_16 := nr_ BK16 hg; replace BK16 := bb_ BK16 hb; have NB24_180 := nl_ BK24 hg; have NB180_24 := nr_ BK24 hg; replace BK24 := bb_ BK24 hb; have NB32_180 := nl_ BK32 hg; have NB180_32 := nr_ BK32 hg; replace BK32 := bb_ BK32 hb; clear hb hbox hg) | ((with_reducible refine gate_dst (N := 7) rfl ?_); refine bx_ 7 #[.int .i64 a1_0, .int .i64 a1_1, .int .i64 a1_2] 64 ?_; intro gb181 hg w39 hbox hb; have BK181 := ak (hbox); have GW181 := gw_ HB hg; have GE181 := gw_ HB hg; replace HB := hs_ HB hb; have NB16_181 := nl_ BK16 hg; have NB181_16 := nr_ BK16 hg; replace BK16 := bb_ BK16 hb; have NB24_181 := nl_ BK24 hg; have NB181_24 := nr_ BK24 hg; replace BK24 := bb_ BK24 hb; have NB32_181 := nl_ BK32 hg; have NB181_32 := nr_ BK32 hg; replace BK32 := bb_ BK32 hb; have NB180_181 := nl_ BK180 hg; have NB181_180 := nr_ BK180 hg; replace BK180 := bb_ BK180 hb; clear hb hbox hg))); replace BK16 := ak (blk_drew BK16.1); replace BK24 := ak (blk_drew BK24.1); replace BK32 := ak (blk_drew BK32.1); replace BK180 := ak (blk_drew BK180.1); replace BK181 := ak (blk_drew BK181.1); replace HB := ak (below_drew1 HB.1); obtain ⟨ad183, e183, hx183_0⟩ := Kd.at_int HR16_0.1 t182 p183 q183; have hw183_0 := hx183_0; (cases e183); replace hx183_0 := (hc_ HB hx183_0).trans hx183_0; replace p183 := eq_true p183; replace q183 := eq_true q183; (refine start_ (n := 8) (S := fun w' => w'.cell? ⟨g16, 0, none⟩ = some (.slice (some ad183) s16_0.length c16_0) ∧ w'.cell? ⟨g24, 0, none⟩ = some (.int .i64 s24_0) ∧ w'.cell? ⟨g24, 1, none⟩ = some (.int .i64 s24_1) ∧ w'.cell? ⟨g24, 2, none⟩ = some (.int .i64 s24_2) ∧ w'.cell? ⟨g24, 3, none⟩ = some (.int .i64 s24_3) ∧ w'.cell? ⟨g24, 4, none⟩ = some (.slice A24_4 s24_4.length c24_4) ∧ w'.cell? ⟨gb181, 0, none⟩ = some (.int .i64 a1_0) ∧ w'.cell? ⟨gb181, 1, none⟩ = some (.int .i64 a1_1) ∧ w'.cell? ⟨gb181, 2, none⟩ = some (.int .i64 a1_2) ∧ w'.cell? (ad183.add (t182).toNat) = some (.int .i64 (rd s16_0 t182))) (ds := []) (bm 8 0) (by kernel_rfl) rfl rfl ⟨bc_ BK16 0, bc_ BK24 0, bc_ BK24 1, bc_ BK24 2, bc_ BK24 3, bc_ BK24 4, bc_ BK181 0, bc_ BK181 1, bc_ BK181 2, ((hc_ HB hw183_0).trans hw183_0)⟩ (fun hHeld => ?_); refine with_tabW bp_.tab1 bp_.bits1 (fun HT_ HW_ => ?_))
  generalize w39.drew = w40 at BK16 BK24 BK32 BK180 BK181 HB hx183_0 hHeld ⊢; refine tv_ 0 HT_ HW_ hHeld ?_; refine tv_ 1 HT_ HW_ hHeld ?_; refine tv_ 2 HT_ HW_ hHeld ?_; (refine join_ (σ := Nat) 1 (bm 8 127) (fun s_ => [(14, .int .i64 t182), (8, .pointer (some ⟨s_, 0, none⟩)), (15, .pointer (some (ad183.add (t182).toNat))), (16, .int .i64 (rd s16_0 t182))]) (fun s_ w' => (w'.cell? ⟨g16, 0, none⟩ = some (.slice (some ad183) s16_0.length c16_0) ∧ w'.cell? ⟨g24, 0, none⟩ = some (.int .i64 s24_0) ∧ w'.cell? ⟨g24, 1, none⟩ = some (.int .i64 s24_1) ∧ w'.cell? ⟨g24, 2, none⟩ = some (.int .i64 s24_2) ∧ w'.cell? ⟨g24, 3, none⟩ = some (.int .i64 s24_3) ∧ w'.cell? ⟨g24, 4, none⟩ = some (.slice A24_4 s24_4.length c24_4) ∧ w'.cell? ⟨gb181, 0, none⟩ = some (.int .i64 a1_0) ∧ w'.cell? ⟨gb181, 1, none⟩ = some (.int .i64 a1_1) ∧ w'.cell? ⟨gb181, 2, none⟩ = some (.int .i64 a1_2) ∧ w'.cell? (ad183.add (t182).toNat) = some (.int .i64 (rd s16_0 t182))) ∧ (w'.heap[g16]? = some (.cells #[.slice (some ad183) s16_0.length c16_0] 40 (0, 0))) ∧ (w'.heap[gb180]? = some (.cells #[.int .i64 a0_0, .int .i64 a0_1, .int .i64 a0_2] 64 (0, 0))) ∧ (w'.heap[gb181]? = some (.cells #[.int .i64 a1_0, .int .i64 a1_1, .int .i64 a1_2] 64 (0, 0))) ∧ (w'.heap[s_]? = some (.cells #[.int .i64 0] 2 (0, 0))) ∧ (w'.heap[g24]? = some (.cells #[.int .i64 s24_0, .int .i64 s24_1, .int .i64 s24_2, .int .i64 s24_3, .slice A24_4 s24_4.length c24_4] 33 (0, 0))) ∧ (w'.heap[g32]? = some (.cells #[.slice A56_0 L.length c56_0] 27 (0, 0))) ∧ (w.heap.size ≤ s_) ∧ (w.heap.size ≤ s_) ∧ (g16 ≠ s_) ∧ (s_ ≠ g16) ∧ (gb180 ≠ s_) ∧ (s_ ≠ gb180) ∧ (gb181 ≠ s_) ∧ (s_ ≠ gb181) ∧ (g24 ≠ s_) ∧ (s_ ≠ g24) ∧ (g32 ≠ s_) ∧ (s_ ≠ g32) ∧ (Below w.heap.size w w')) ?_ ?_); rotate_left
  ·intro hCont
   refine two_ (i := 3) (j := 6) (Ni := some 14) (Nj := some 8) (bm 8 15) (bm 8 71) rfl rfl rfl rfl (two_of HT_.1 (by kernel_rfl)) (by decide) (by decide) (fun K hK => ?_) (fun K hK => ?_)
   ·skip
    (refine goes_ Try.func47 (by kernel_rfl) rfl #[.agg #[.int .i64 s24_0, .int .i64 s24_1, .int .i64 s24_2, .int .i64 s24_3, .slice A24_4 s24_4.length c24_4], .agg #[.int .i64 a1_0, .int .i64 a1_1, .int .i64 a1_2]] (by rfl) rfl rfl am_ ?_); (with_reducible refine (boxpack_Problem_index.calls s24_0 s24_1 s24_2 s24_3 _ _ s24_4 a1_0 a1_1 a1_2 t182 _ ?side1 ?side2 A6.1).mono ?_); ((case side1 => exact (Kd.C_below HR24_4.1 HB.1))); ((case side2 => exact HC24_4.1)); rintro e w41 ⟨rfl, hb⟩; refine ⟨_, rfl, ?_⟩; replace BK16 := bb_ BK16 hb; replace BK24 := bb_ BK24 hb; replace BK32 := bb_ BK32 hb; replace BK180 := bb_ BK180 hb; replace BK181 := bb_ BK181 hb; replace HB := hs_ HB hb; ((try clear hb)); (refine hK.out _ _ ⟨bc_ BK16 0, bc_ BK24 0, bc_ BK24 1, bc_ BK24 2, bc_ BK24 3, bc_ BK24 4, bc_ BK181 0, bc_ BK181 1, bc_ BK181 2, ((hc_ HB hw183_0).trans hw183_0)⟩ (fun hHeld => ?_)); clear hK K; refine nv_ ?_; refine pv_ 4 HT_ ?_; refine tv_ 5 HT_ HW_ hHeld ?_; (refine one_ (i := 6) (N := some 8) (bm 8 127) rfl rfl (one_of HT_.1 (by kernel_rfl)) (by decide) (fun K hK => ?_)); refine bt_ 8 #[.int .i64 0] 2 ?_; intro gb184 hg w42 hbox hb; have BK184 := ak (hbox); have GW184 := gw_ HB hg; have GE184 := gw_ HB hg; replace HB := hs_ HB hb; have NB16_184 := nl_ BK16 hg; have NB184_16 := nr_ BK16 hg; replace BK16 := bb_ BK16 hb; have NB24_184 := nl_ BK24 hg; have NB184_24 := nr_ BK24 hg; replace BK24 := bb_ BK24 hb; have NB32_184 := nl_ BK32 hg; have NB184_32 := nr_ BK32 hg; replace BK32 := bb_ BK32 hb; have NB180_184 := nl_ BK180 hg; have NB184_180 := nr_ BK180 hg; replace BK180 := bb_ BK180 hb; have NB181_184 := nl_ BK181 hg; have NB184_181 := nr_ BK181 hg; replace BK181 := bb_ BK181 hb; clear hb hbox hg; (refine hK.out _ _ ⟨bc_ BK16 0, bc_ BK24 0, bc_ BK24 1, bc_ BK24 2, bc_ BK24 3, bc_ BK24 4, bc_ BK181 0, bc_ BK181 1, bc_ BK181 2, ((hc_ HB hw183_0).trans hw183_0)⟩ (fun hHeld => ?_)); clear hK K; refine nv_ ?_; (exact norm_ (by simp only [putAll, Act.put, List.setIfInBounds_toArray, List.set_cons_zero, List.set_cons_succ]) (hCont (gb184) _ ⟨hHeld, (bk_ BK16), (bk_ BK180), (bk_ BK181), (bk_ BK184), (bk_ BK24), (bk_ BK32), GW184.1, GE184.1, NB16_184.1, NB184_16.1, NB180_184.1, NB184_180.1, NB181_184.1, NB184_181.1, NB24_184.1, NB184_24.1, NB32_184.1, NB184_32.1, (hb_ HB)⟩))
   skip
   refine bt_ 8 #[.int .i64 0] 2 ?_; intro gb184 hg w41 hbox hb; have BK184 := ak (hbox); have GW184 := gw_ HB hg; have GE184 := gw_ HB hg; replace HB := hs_ HB hb; have NB16_184 := nl_ BK16 hg; have NB184_16 := nr_ BK16 hg; replace BK16 := bb_ BK16 hb; have NB24_184 := nl_ BK24 hg; have NB184_24 := nr_ BK24 hg; replace BK24 := bb_ BK24 hb; have NB32_184 := nl_ BK32 hg; have NB184_32 := nr_ BK32 hg; replace BK32 := bb_ BK32 hb; have NB180_184 := nl_ BK180 hg; have NB184_180 := nr_ BK180 hg; replace BK180 := bb_ BK180 hb; have NB181_184 := nl_ BK181 hg; have NB184_181 := nr_ BK181 hg; replace BK181 := bb_ BK181 hb; clear hb hbox hg; (refine hK.out _ _ ⟨bc_ BK16 0, bc_ BK24 0, bc_ BK24 1, bc_ BK24 2, bc_ BK24 3, bc_ BK24 4, bc_ BK181 0, bc_ BK181 1, bc_ BK181 2, ((hc_ HB hw183_0).trans hw183_0)⟩ (fun hHeld => ?_)); clear hK K; refine nv_ ?_; (refine one_ (i := 3) (N := some 14) (bm 8 79) rfl rfl (one_of HT_.1 (by kernel_rfl)) (by decide) (fun K hK => ?_)); (refine goes_ Try.func47 (by kernel_rfl) rfl #[.agg #[.int .i64 s24_0, .int .i64 s24_1, .int .i64 s24_2, .int .i64 s24_3, .slice A24_4 s24_4.length c24_4], .agg #[.int .i64 a1_0, .int .i64 a1_1, .int .i64 a1_2]] (by rfl) rfl rfl am_ ?_); (with_reducible refine (boxpack_Problem_index.calls s24_0 s24_1 s24_2 s24_3 _ _ s24_4 a1_0 a1_1 a1_2 t182 _ ?side1 ?side2 A6.1).mono ?_); ((case side1 => exact (Kd.C_below HR24_4.1 HB.1))); ((case side2 => exact HC24_4.1)); rintro e w42 ⟨rfl, hb⟩; refine ⟨_, rfl, ?_⟩; replace BK16 := bb_ BK16 hb; replace BK24 := bb_ BK24 hb; replace BK32 := bb_ BK32 hb; replace BK180 := bb_ BK180 hb; replace BK181 := bb_ BK181 hb; replace BK184 := bb_ BK184 hb; replace HB := hs_ HB hb; ((try clear hb)); (refine hK.out _ _ ⟨bc_ BK16 0, bc_ BK24 0, bc_ BK24 1, bc_ BK24 2, bc_ BK24 3, bc_ BK24 4, bc_ BK181 0, bc_ BK181 1, bc_ BK181 2, ((hc_ HB hw183_0).trans hw183_0)⟩ (fun hHeld => ?_)); clear hK K; refine nv_ ?_; refine pv_ 4 HT_ ?_; refine tv_ 5 HT_ HW_ hHeld ?_; (exact norm_ (by simp only [putAll, Act.put, List.setIfInBounds_toArray, List.set_cons_zero, List.set_cons_succ]) (hCont (gb184) _ ⟨hHeld, (bk_ BK16), (bk_ BK180), (bk_ BK181), (bk_ BK184), (bk_ BK24), (bk_ BK32), GW184.1, GE184.1, NB16_184.1, NB184_16.1, NB180_184.1, NB184_180.1, NB181_184.1, NB184_181.1, NB24_184.1, NB184_24.1, NB32_184.1, NB184_32.1, (hb_ HB)⟩))
  rintro gb184 w43 ⟨hS_, h0_, h1_, h2_, h3_, h4_, h5_, h6_, h7_, h8_, h9_, h10_, h11_, h12_, h13_, h14_, h15_, h16_, h17_, h18_⟩; (try dsimp only at h0_ h1_ h2_ h3_ h4_ h5_ h6_ h7_ h8_ h9_ h10_ h11_ h12_ h13_ h14_ h15_ h16_ h17_ h18_); clear BK16 BK24 BK32 BK180 BK181 HB; have BK16 := ak h0_; have BK180 := ak h1_; have BK181 := ak h2_; have BK184 := ak h3_; have BK24 := ak h4_; have BK32 := ak h5_; have GW184 := ak h6_; have GE184 := ak h7_; have NB16_184 := ak h8_; have NB184_16 := ak h9_; have NB180_184 := ak h10_; have NB184_180 := ak h11_; have NB181_184 := ak h12_; have NB184_181 := ak h13_; have NB24_184 := ak h14_; have NB184_24 := ak h15_; have NB32_184 := ak h16_; have NB184_32 := ak h17_; have HB := ak h18_; clear h0_ h1_ h2_ h3_ h4_ h5_ h6_ h7_ h8_ h9_ h10_ h11_ h12_ h13_ h14_ h15_ h16_ h17_ h18_; have hHeld := hS_; (try dsimp only at hHeld); refine norm_ (a' := ?_) ?_ ?_; rotate_left
  ·simp only [putAll, Act.put, List.setIfInBounds_toArray, List.set_cons_zero, List.set_cons_succ]; (rfl)
  (refine one_ (i := 7) (N := none) (bm 8 255) rfl rfl (one_of HT_.1 (by kernel_rfl)) (by decide) (fun K hK => ?_)); have hs44 : w43.cell? ⟨gb184, 0, none⟩ = some (.int .i64 0) := bc_ BK184 0; have hfs44 := blk_frozen BK184.1 0; have hns44_0 := NB16_184.1; have hns44_1 := NB24_184.1; have hns44_2 := NB32_184.1; have hns44_3 := NB180_184.1; have hns44_4 := NB181_184.1; have hms44_0 := NB184_16.1; have hms44_1 := NB184_24.1; have hms44_2 := NB184_32.1; have hms44_3 := NB184_180.1; have hms44_4 := NB184_181.1; (refine skip_ (w1 := ?_) (by rfl) rfl ?_ ?_); rotate_left
  ·(go_simp); (rfl)
  (refine hK.out _ _ ⟨(cf_ NB16_184 hHeld.1), (cf_ NB24_184 hHeld.2.1), (cf_ NB24_184 hHeld.2.2.1), (cf_ NB24_184 hHeld.2.2.2.1), (cf_ NB24_184 hHeld.2.2.2.2.1), (cf_ NB24_184 hHeld.2.2.2.2.2.1), (cf_ NB181_184 hHeld.2.2.2.2.2.2.1), (cf_ NB181_184 hHeld.2.2.2.2.2.2.2.1), (cf_ NB181_184 hHeld.2.2.2.2.2.2.2.2.1), ((cell_far (p := ⟨gb184, _, none⟩) (nf_ hw183_0 GW184.1) _).trans (hHeld.2.2.2.2.2.2.2.2.2))⟩ (fun hHeld => ?_)); clear hK K; (refine done_ (done_of HT_.1 (by kernel_rfl)) ?_); 
  have n16_ := ak (bf1_ (i0 := 0) (u0 := .int .i64 (rd s16_0 t182)) BK16 NB16_184)
  have n24_ := ak (bf1_ (i0 := 0) (u0 := .int .i64 (rd s16_0 t182)) BK24 NB24_184)
  have n32_ := ak (bf1_ (i0 := 0) (u0 := .int .i64 (rd s16_0 t182)) BK32 NB32_184)
  have n180_ := ak (bf1_ (i0 := 0) (u0 := .int .i64 (rd s16_0 t182)) BK180 NB180_184)
  have n181_ := ak (bf1_ (i0 := 0) (u0 := .int .i64 (rd s16_0 t182)) BK181 NB181_184)
  have n184_ := (⟨blk_put (cs := #[.int .i64 0]) BK184.1 0 _ rfl⟩ : Aside0 ((w43.setCell ⟨gb184, 0, none⟩ (.int .i64 (rd s16_0 t182))).heap[gb184]? = some (.cells #[.int .i64 (rd s16_0 t182)] 2 (0, 0))))
  have nHB_ := (⟨hb_ HB⟩ : Aside0 (Below w.heap.size w (w43.setCell ⟨gb184, 0, none⟩ (.int .i64 (rd s16_0 t182)))))
  clear BK16 BK24 BK32 BK180 BK181 BK184 HB
  generalize (w43.setCell ⟨gb184, 0, none⟩ (.int .i64 (rd s16_0 t182))) = w50 at n16_ n24_ n32_ n180_ n181_ n184_ nHB_ ⊢
  have BK16 := n16_
  have BK24 := n24_
  have BK32 := n32_
  have BK180 := n180_
  have BK181 := n181_
  have BK184 := n184_
  have HB := nHB_
  clear n16_ n24_ n32_ n180_ n181_ n184_ nHB_
  clear hHeld
  replace p183 := ak p183
  replace q183 := ak q183
  replace hx183_0 := ak hx183_0
  replace hw183_0 := ak hw183_0
  by_cases c9 : L.length > 1024
  · rw [if_pos c9] at h
    obtain rfl := Option.some.inj h
    have c9b0 : decide ((L.length : Int) > 1024) = true := decide_eq_true (by omega)
    have c9b1 : decide (1024 < L.length) = true := decide_eq_true (by omega)
    clear c9
    obtain ⟨hcz48_0, hfz48_0⟩ := cz1_ BK32
    (try go_wp2)
    ((refine bodyPost_ret (results_none rfl _ _ _) rfl ?_))
    exact ⟨rfl, hI.keep hc (hb_ HB), Own.below (hb_ HB)⟩
  rw [if_neg c9] at h
  have c9b0 : decide ((L.length : Int) > 1024) = false := decide_eq_false (by omega)
  have c9b1 : decide (1024 < L.length) = false := decide_eq_false (by omega)
  clear c9
  by_cases c21 : rd s16_0 t182 = 0
  · rw [if_pos c21] at h
    obtain rfl := Option.some.inj h
    have c21b0 := beq_iff_eq.mpr c21
    have c21b1 := bne_eq_false_iff_eq.mpr c21
    clear c21
    obtain ⟨hcz48_0, hfz48_0⟩ := cz1_ BK32
    obtain ⟨hcz53_0, hfz53_0⟩ := cz1_ BK184
    have rLX : Kd.R k61 61 w50 w1.heap.size (fun _ => True) (.slice A56_0 L.length c56_0) L := Kd.R_below rL (hb_ HB)
    have hLX := hL.1
    (go_wp2_with (first | ((with_reducible refine gate_builtin (b := .append) (xs := #[.tmp 22, .tmp 24]) rfl ?_); at_builtin; refine Kd.R_append k61 (w0 := w50) w1.heap.size rfl (.tmp 22) (.tmp 24) 27 61 (.agg #[(.int .i64 0), (.string ⟨#[]⟩), (.int .i64 0), (.int .i64 0), (.int .i64 0), (.int .i64 0), (.int .i64 0)]) 64 rfl Try.underlying27 info61 rfl (by decide) (by omega) (.slice A56_0 L.length c56_0) L (⟨0, ⟨#[]⟩, 0, 0, 0, 0, 0⟩ : S61) [.int .i64 0, .string ⟨#[]⟩, .int .i64 0, .int .i64 0, .int .i64 0, .int .i64 0, .int .i64 0] (fun _ => True) (fun _ => False) rfl rfl ?aP (fun _ hk => hk.elim) ?aF ?aO ?aB ?aS ?aL ?_; (case aP => exact k61_mkM _ _ _ (⟨0, ⟨#[]⟩, 0, 0, 0, 0, 0⟩ : S61)); (case aF => exact fun _ _ => trivial); (case aO => exact rLX); (case aB => exact Below.refl _ _); (case aS => exact Nat.le_trans hI.size (below_size (hb_ HB))); (case aL => omega); intro v27 w27 ho hb hg hat; clear hb hat; obtain ⟨A27, c27, rfl⟩ := Kd.R_slice ho; have BKL := ak (blk_grown (bk_ BK32) hg (Kd.R_ne rLX (bk_ BK32) (by decide))); obtain ⟨hczL_0, hfzL_0⟩ := cz1_ BKL)))
    have ho28 : Kd.R k61 61 w27 w1.heap.size (fun _ => True) (.slice A27 (L.length + 1) c27) (L ++ [(⟨0, ⟨#[]⟩, 0, 0, 0, 0, 0⟩ : S61)]) := by
      rw [List.length_append] at ho
      exact ho
    obtain ⟨hi28, ow28⟩ := PInv.put hc (hI.keep hc (hb_ HB)) rLX ho28 hg
    ((refine bodyPost_ret (results_none rfl _ _ _) rfl ?_))
    exact ⟨rfl, hi28, (Own.below (n := w1.heap.size) (hb_ HB)).trans ow28⟩
  rw [if_neg c21] at h
  have c21b0 := beq_eq_false_iff_ne.mpr c21
  have c21b1 := bne_iff_ne.mpr c21
  clear c21
  obtain ⟨hcz56_0, hcz56_1, hcz56_2, hcz56_3, hcz56_4, hfz56_0, hfz56_1, hfz56_2, hfz56_3, hfz56_4⟩ := cz5_ BK24
  obtain ⟨hcz53_0, hfz53_0⟩ := cz1_ BK184
  obtain ⟨hcz48_0, hfz48_0⟩ := cz1_ BK32
  (try go_wp2)
  (go_loopg [29] (s24_4.length + 1) (fun kq v29 w' => ∃ (x29_1 : Int), v29 = .int .i64 x29_1 ∧ Aside0 ((0 ≤ x29_1 ∧ x29_1 ≤ (s24_4.length : Int)) ∧ (kq : Int) + x29_1 = (s24_4.length : Int) + 1 ∧ s24_4.find? (itemOk ⟨a1_0, a1_1, a1_2⟩ (rd s16_0 t182)) = (s24_4.drop x29_1.toNat).find? (itemOk ⟨a1_0, a1_1, a1_2⟩ (rd s16_0 t182))) ∧ Aside0 (w'.heap[g16]? = some (.cells #[(.slice (some ad183) s16_0.length c16_0)] 40 (0, 0))) ∧ Aside0 (w'.heap[g24]? = some (.cells #[.int .i64 s24_0, .int .i64 s24_1, .int .i64 s24_2, .int .i64 s24_3, (.slice A24_4 s24_4.length c24_4)] 33 (0, 0))) ∧ Aside0 (w'.heap[g32]? = some (.cells #[(.slice A56_0 L.length c56_0)] 27 (0, 0))) ∧ Aside0 (w'.heap[gb180]? = some (.cells #[.int .i64 a0_0, .int .i64 a0_1, .int .i64 a0_2] 64 (0, 0))) ∧ Aside0 (w'.heap[gb181]? = some (.cells #[.int .i64 a1_0, .int .i64 a1_1, .int .i64 a1_2] 64 (0, 0))) ∧ Aside0 (w'.heap[gb184]? = some (.cells #[.int .i64 (rd s16_0 t182)] 2 (0, 0))) ∧ Aside0 (Below w.heap.size w w')))
  case atStart => exact ⟨0, rfl, ⟨⟨by omega, by omega⟩, by omega, rfl⟩, ⟨bk_ BK16⟩, ⟨bk_ BK24⟩, ⟨bk_ BK32⟩, ⟨bk_ BK180⟩, ⟨bk_ BK181⟩, ⟨bk_ BK184⟩, ⟨hb_ HB⟩⟩
  clear hcz56_0 hcz56_1 hcz56_2 hcz56_3 hcz56_4 hfz56_0 hfz56_1 hfz56_2 hfz56_3 hfz56_4 hcz53_0 hfz53_0 hcz48_0 hfz48_0 c9b0 c9b1 c21b0 c21b1 BK16 BK24 BK32 BK180 BK181 BK184 HB
  obtain ⟨x29_1, rfl, HA, BK16, BK24, BK32, BK180, BK181, BK184, HB⟩ := hrel
  cases gk with
  | zero => exact absurd HA.1 (by rintro ⟨⟨_, _⟩, _, _⟩; omega)
  | succ k1 =>
    by_cases c57 : x29_1 < (s24_4.length : Int)
    · have hdr := ak (drop56 s24_4 x29_1 HA.1.1.1 c57)
      have c57b0 := decide_eq_true c57
      have p185 := HA.1.1.1
      have q185 := c57
      have hq_ := ak c57
      clear c57
      obtain ⟨ad185, e185, hx185_0, hx185_1, hx185_2, hx185_3, hx185_4, hx185_5, hx185_6⟩ := at_T56 HR24_4.1 x29_1 p185 q185; (cases e185); replace hx185_0 := (hc_ HB hx185_0).trans hx185_0; replace hx185_1 := (hc_ HB hx185_1).trans hx185_1; replace hx185_2 := (hc_ HB hx185_2).trans hx185_2; replace hx185_3 := (hc_ HB hx185_3).trans hx185_3; replace hx185_4 := (hc_ HB hx185_4).trans hx185_4; replace hx185_5 := (hc_ HB hx185_5).trans hx185_5; replace hx185_6 := (hc_ HB hx185_6).trans hx185_6; replace p185 := eq_true p185; replace q185 := eq_true q185; (try go_wp2_with (first | ((with_reducible refine gate_dst (N := 10) rfl ?_); refine bx_ 10 #[.string (⟨#[]⟩ : ByteArray), .int .i64 0, .int .i64 0, .int .i64 0, .int .i64 0, .int .i64 0, .int .i64 0] 56 ?_; intro gb186 hg w81 hbox hb; have BK186 := ak (hbox); have GW186 := gw_ HB hg; have GE186 := gw_ HB hg; replace HB := hs_ HB hb; have NB16_186 := nl_ BK16 hg; have NB186_16 := nr_ BK16 hg; replace BK16 := bb_ BK16 hb; have NB24_186 := nl_ BK24 hg; have NB186_24 := nr_ BK24 hg; replace BK24 := bb_ BK24 hb; have NB32_186 := nl_ BK32 hg; have NB186_32 := nr_ BK32 hg; replace BK32 := bb_ BK32 hb; have NB180_186 := nl_ BK180 hg; have NB186_180 := nr_ BK180 hg; replace BK180 := bb_ BK180 hb; have NB181_186 := nl_ BK181 hg; have NB186_181 := nr_ BK181 hg; replace BK181 := bb_ BK181 hb; have NB184_186 := nl_ BK184 hg; have NB186_184 := nr_ BK184 hg; replace BK184 := bb_ BK184 hb; clear hb hbox hg; have hnb82 := NB186_16.1; have hnc82 := NB16_186.1; have hnb83 := NB186_24.1; have hnc83 := NB24_186.1; have hnb84 := NB186_32.1; have hnc84 := NB32_186.1; have hnb85 := NB186_180.1; have hnc85 := NB180_186.1; have hnb86 := NB186_181.1; have hnc86 := NB181_186.1; have hnb87 := NB186_184.1; have hnc87 := NB184_186.1; have hcz88_0 : w81.cell? ⟨gb186, 0, none⟩ = some (.string (⟨#[]⟩ : ByteArray)) := bc_ BK186 0; have hcz88_1 : w81.cell? ⟨gb186, 1, none⟩ = some (.int .i64 0) := bc_ BK186 1; have hcz88_2 : w81.cell? ⟨gb186, 2, none⟩ = some (.int .i64 0) := bc_ BK186 2; have hcz88_3 : w81.cell? ⟨gb186, 3, none⟩ = some (.int .i64 0) := bc_ BK186 3; have hcz88_4 : w81.cell? ⟨gb186, 4, none⟩ = some (.int .i64 0) := bc_ BK186 4; have hcz88_5 : w81.cell? ⟨gb186, 5, none⟩ = some (.int .i64 0) := bc_ BK186 5; have hcz88_6 : w81.cell? ⟨gb186, 6, none⟩ = some (.int .i64 0) := bc_ BK186 6; have hfz88_0 := blk_frozen BK186.1 0; have hfz88_1 := blk_frozen BK186.1 1; have hfz88_2 := blk_frozen BK186.1 2; have hfz88_3 := blk_frozen BK186.1 3; have hfz88_4 := blk_frozen BK186.1 4; have hfz88_5 := blk_frozen BK186.1 5; have hfz88_6 := blk_frozen BK186.1 6)))
      have n16_ := bf7_ (u0 := .string ((rd_T56 s24_4 x29_1).f0)) (u1 := .int .i64 ((rd_T56 s24_4 x29_1).f1.f0)) (u2 := .int .i64 ((rd_T56 s24_4 x29_1).f1.f1)) (u3 := .int .i64 ((rd_T56 s24_4 x29_1).f1.f2)) (u4 := .int .i64 ((rd_T56 s24_4 x29_1).f2)) (u5 := .int .i64 ((rd_T56 s24_4 x29_1).f3)) (u6 := .int .i64 ((rd_T56 s24_4 x29_1).f4)) BK16 NB16_186
      have n24_ := bf7_ (u0 := .string ((rd_T56 s24_4 x29_1).f0)) (u1 := .int .i64 ((rd_T56 s24_4 x29_1).f1.f0)) (u2 := .int .i64 ((rd_T56 s24_4 x29_1).f1.f1)) (u3 := .int .i64 ((rd_T56 s24_4 x29_1).f1.f2)) (u4 := .int .i64 ((rd_T56 s24_4 x29_1).f2)) (u5 := .int .i64 ((rd_T56 s24_4 x29_1).f3)) (u6 := .int .i64 ((rd_T56 s24_4 x29_1).f4)) BK24 NB24_186
      have n32_ := bf7_ (u0 := .string ((rd_T56 s24_4 x29_1).f0)) (u1 := .int .i64 ((rd_T56 s24_4 x29_1).f1.f0)) (u2 := .int .i64 ((rd_T56 s24_4 x29_1).f1.f1)) (u3 := .int .i64 ((rd_T56 s24_4 x29_1).f1.f2)) (u4 := .int .i64 ((rd_T56 s24_4 x29_1).f2)) (u5 := .int .i64 ((rd_T56 s24_4 x29_1).f3)) (u6 := .int .i64 ((rd_T56 s24_4 x29_1).f4)) BK32 NB32_186
      have n180_ := bf7_ (u0 := .string ((rd_T56 s24_4 x29_1).f0)) (u1 := .int .i64 ((rd_T56 s24_4 x29_1).f1.f0)) (u2 := .int .i64 ((rd_T56 s24_4 x29_1).f1.f1)) (u3 := .int .i64 ((rd_T56 s24_4 x29_1).f1.f2)) (u4 := .int .i64 ((rd_T56 s24_4 x29_1).f2)) (u5 := .int .i64 ((rd_T56 s24_4 x29_1).f3)) (u6 := .int .i64 ((rd_T56 s24_4 x29_1).f4)) BK180 NB180_186
      have n181_ := bf7_ (u0 := .string ((rd_T56 s24_4 x29_1).f0)) (u1 := .int .i64 ((rd_T56 s24_4 x29_1).f1.f0)) (u2 := .int .i64 ((rd_T56 s24_4 x29_1).f1.f1)) (u3 := .int .i64 ((rd_T56 s24_4 x29_1).f1.f2)) (u4 := .int .i64 ((rd_T56 s24_4 x29_1).f2)) (u5 := .int .i64 ((rd_T56 s24_4 x29_1).f3)) (u6 := .int .i64 ((rd_T56 s24_4 x29_1).f4)) BK181 NB181_186
      have n184_ := bf7_ (u0 := .string ((rd_T56 s24_4 x29_1).f0)) (u1 := .int .i64 ((rd_T56 s24_4 x29_1).f1.f0)) (u2 := .int .i64 ((rd_T56 s24_4 x29_1).f1.f1)) (u3 := .int .i64 ((rd_T56 s24_4 x29_1).f1.f2)) (u4 := .int .i64 ((rd_T56 s24_4 x29_1).f2)) (u5 := .int .i64 ((rd_T56 s24_4 x29_1).f3)) (u6 := .int .i64 ((rd_T56 s24_4 x29_1).f4)) BK184 NB184_186
      have n186_ := bp7_ (u0 := .string ((rd_T56 s24_4 x29_1).f0)) (u1 := .int .i64 ((rd_T56 s24_4 x29_1).f1.f0)) (u2 := .int .i64 ((rd_T56 s24_4 x29_1).f1.f1)) (u3 := .int .i64 ((rd_T56 s24_4 x29_1).f1.f2)) (u4 := .int .i64 ((rd_T56 s24_4 x29_1).f2)) (u5 := .int .i64 ((rd_T56 s24_4 x29_1).f3)) (u6 := .int .i64 ((rd_T56 s24_4 x29_1).f4)) BK186
      have nHB_ := hb7_ (u0 := .string ((rd_T56 s24_4 x29_1).f0)) (u1 := .int .i64 ((rd_T56 s24_4 x29_1).f1.f0)) (u2 := .int .i64 ((rd_T56 s24_4 x29_1).f1.f1)) (u3 := .int .i64 ((rd_T56 s24_4 x29_1).f1.f2)) (u4 := .int .i64 ((rd_T56 s24_4 x29_1).f2)) (u5 := .int .i64 ((rd_T56 s24_4 x29_1).f3)) (u6 := .int .i64 ((rd_T56 s24_4 x29_1).f4)) HB GE186
      clear BK16 BK24 BK32 BK180 BK181 BK184 BK186 HB hcz88_0 hcz88_1 hcz88_2 hcz88_3 hcz88_4 hcz88_5 hcz88_6 hfz88_0 hfz88_1 hfz88_2 hfz88_3 hfz88_4 hfz88_5 hfz88_6 hnb82 hnb83 hnb84 hnb85 hnb86 hnb87 hnc82 hnc83 hnc84 hnc85 hnc86 hnc87
      generalize (((((((w81.setCell ⟨gb186, 0, none⟩ (.string ((rd_T56 s24_4 x29_1).f0))).setCell ⟨gb186, 1, none⟩ (.int .i64 ((rd_T56 s24_4 x29_1).f1.f0))).setCell ⟨gb186, 2, none⟩ (.int .i64 ((rd_T56 s24_4 x29_1).f1.f1))).setCell ⟨gb186, 3, none⟩ (.int .i64 ((rd_T56 s24_4 x29_1).f1.f2))).setCell ⟨gb186, 4, none⟩ (.int .i64 ((rd_T56 s24_4 x29_1).f2))).setCell ⟨gb186, 5, none⟩ (.int .i64 ((rd_T56 s24_4 x29_1).f3))).setCell ⟨gb186, 6, none⟩ (.int .i64 ((rd_T56 s24_4 x29_1).f4))) = w89 at n16_ n24_ n32_ n180_ n181_ n184_ n186_ nHB_ ⊢
      have BK16 := n16_
      have BK24 := n24_
      have BK32 := n32_
      have BK180 := n180_
      have BK181 := n181_
      have BK184 := n184_
      have BK186 := n186_
      have HB := nHB_
      clear n16_ n24_ n32_ n180_ n181_ n184_ n186_ nHB_
      replace BK16 := ak (blk_drew BK16.1); replace BK24 := ak (blk_drew BK24.1); replace BK32 := ak (blk_drew BK32.1); replace BK180 := ak (blk_drew BK180.1); replace BK181 := ak (blk_drew BK181.1); replace BK184 := ak (blk_drew BK184.1); replace BK186 := ak (blk_drew BK186.1); replace HB := ak (below_drew1 HB.1); (refine start_ (n := 11) (S := fun w' => w'.cell? ⟨gb186, 0, none⟩ = some (.string ((rd_T56 s24_4 x29_1).f0)) ∧ w'.cell? ⟨gb186, 1, none⟩ = some (.int .i64 ((rd_T56 s24_4 x29_1).f1.f0)) ∧ w'.cell? ⟨gb186, 2, none⟩ = some (.int .i64 ((rd_T56 s24_4 x29_1).f1.f1)) ∧ w'.cell? ⟨gb186, 3, none⟩ = some (.int .i64 ((rd_T56 s24_4 x29_1).f1.f2)) ∧ w'.cell? ⟨gb186, 4, none⟩ = some (.int .i64 ((rd_T56 s24_4 x29_1).f2)) ∧ w'.cell? ⟨gb186, 5, none⟩ = some (.int .i64 ((rd_T56 s24_4 x29_1).f3)) ∧ w'.cell? ⟨gb186, 6, none⟩ = some (.int .i64 ((rd_T56 s24_4 x29_1).f4)) ∧ w'.cell? ⟨gb181, 0, none⟩ = some (.int .i64 a1_0) ∧ w'.cell? ⟨gb181, 1, none⟩ = some (.int .i64 a1_1) ∧ w'.cell? ⟨gb181, 2, none⟩ = some (.int .i64 a1_2) ∧ w'.cell? ⟨gb184, 0, none⟩ = some (.int .i64 (rd s16_0 t182))) (ds := []) (bm 11 0) (by kernel_rfl) rfl rfl ⟨bc_ BK186 0, bc_ BK186 1, bc_ BK186 2, bc_ BK186 3, bc_ BK186 4, bc_ BK186 5, bc_ BK186 6, bc_ BK181 0, bc_ BK181 1, bc_ BK181 2, bc_ BK184 0⟩ (fun hHeld => ?_); refine with_tabW bp_.tab8 bp_.bits8 (fun HT_ HW_ => ?_))
      obtain ⟨t190, et190⟩ : ∃ t, t = fitsB (rd_T56 s24_4 x29_1).f1 ⟨a1_0, a1_1, a1_2⟩ := ⟨_, rfl⟩
      have A61 : Aside0 (boxpack_fits.f (rd_T56 s24_4 x29_1).f1.f0 (rd_T56 s24_4 x29_1).f1.f1 (rd_T56 s24_4 x29_1).f1.f2 a1_0 a1_1 a1_2 = some t190) := ⟨by rw [et190]; exact fits_eq (rd_T56 s24_4 x29_1).f1 ⟨a1_0, a1_1, a1_2⟩⟩
      replace et190 := ak et190
      generalize w89.drew = w90 at BK16 BK24 BK32 BK180 BK181 BK184 BK186 HB hHeld ⊢; refine pv_ 0 HT_ ?_; refine tv_ 1 HT_ HW_ hHeld ?_; refine tv_ 3 HT_ HW_ hHeld ?_; (refine one_ (i := 2) (N := some 35) (bm 11 15) rfl rfl (one_of HT_.1 (by kernel_rfl)) (by decide) (fun K hK => ?_)); (refine goes_ Try.func29 (by kernel_rfl) rfl #[.agg #[.int .i64 ((rd_T56 s24_4 x29_1).f1.f0), .int .i64 ((rd_T56 s24_4 x29_1).f1.f1), .int .i64 ((rd_T56 s24_4 x29_1).f1.f2)]] (by rfl) rfl rfl am_ ?_); (with_reducible refine (boxpack_sides.calls ((rd_T56 s24_4 x29_1).f1.f0) ((rd_T56 s24_4 x29_1).f1.f1) ((rd_T56 s24_4 x29_1).f1.f2) (rd_T56 s24_4 x29_1).f1.f0 (rd_T56 s24_4 x29_1).f1.f1 (rd_T56 s24_4 x29_1).f1.f2 _ rfl).mono ?_); rintro e w91 ⟨rfl, hb⟩; refine ⟨_, rfl, ?_⟩; replace BK16 := bb_ BK16 hb; replace BK24 := bb_ BK24 hb; replace BK32 := bb_ BK32 hb; replace BK180 := bb_ BK180 hb; replace BK181 := bb_ BK181 hb; replace BK184 := bb_ BK184 hb; replace BK186 := bb_ BK186 hb; replace HB := hs_ HB hb; ((try clear hb)); (refine hK.out _ _ ⟨bc_ BK186 0, bc_ BK186 1, bc_ BK186 2, bc_ BK186 3, bc_ BK186 4, bc_ BK186 5, bc_ BK186 6, bc_ BK181 0, bc_ BK181 1, bc_ BK181 2, bc_ BK184 0⟩ (fun hHeld => ?_)); clear hK K; refine nv_ ?_; (refine one_ (i := 4) (N := some 37) (bm 11 31) rfl rfl (one_of HT_.1 (by kernel_rfl)) (by decide) (fun K hK => ?_)); (refine goes_ Try.func32 (by kernel_rfl) rfl #[.agg #[.int .i64 ((rd_T56 s24_4 x29_1).f1.f0), .int .i64 ((rd_T56 s24_4 x29_1).f1.f1), .int .i64 ((rd_T56 s24_4 x29_1).f1.f2)], .agg #[.int .i64 a1_0, .int .i64 a1_1, .int .i64 a1_2]] (by rfl) rfl rfl am_ ?_); (with_reducible refine (boxpack_fits.calls (rd_T56 s24_4 x29_1).f1.f0 (rd_T56 s24_4 x29_1).f1.f1 (rd_T56 s24_4 x29_1).f1.f2 a1_0 a1_1 a1_2 t190 _ A61.1).mono ?_); rintro e w92 ⟨rfl, hb⟩; refine ⟨_, rfl, ?_⟩; replace BK16 := bb_ BK16 hb; replace BK24 := bb_ BK24 hb; replace BK32 := bb_ BK32 hb; replace BK180 := bb_ BK180 hb; replace BK181 := bb_ BK181 hb; replace BK184 := bb_ BK184 hb; replace BK186 := bb_ BK186 hb; replace HB := hs_ HB hb; ((try clear hb)); (refine hK.out _ _ ⟨bc_ BK186 0, bc_ BK186 1, bc_ BK186 2, bc_ BK186 3, bc_ BK186 4, bc_ BK186 5, bc_ BK186 6, bc_ BK181 0, bc_ BK181 1, bc_ BK181 2, bc_ BK184 0⟩ (fun hHeld => ?_)); clear hK K; refine nv_ ?_
      cases t190 with
      | false =>
        have hno : Aside0 ((itemOk ⟨a1_0, a1_1, a1_2⟩ (rd s16_0 t182)) (rd_T56 s24_4 x29_1) = false) := ⟨by rw [itemOk, ← et190.1]; rfl⟩
        refine pv_ 5 HT_ ?_
        refine pu_ 6 39 (bm 11 127) HT_ ?_
        refine pu_ 7 40 (bm 11 255) HT_ ?_
        refine pu_ 8 41 (bm 11 511) HT_ ?_
        refine pu_ 9 42 (bm 11 1023) HT_ ?_
        refine pv_ 10 HT_ ?_; (refine done_ (done_of HT_.1 (by kernel_rfl)) ?_)
        (try go_wp2)
        (go_roundg k1)
        case measure => have := HA.1; omega
        have hx_ : wrap64 (x29_1 + 1) = x29_1 + 1 := wr_ (by have := HA.1; have := hlen.1; omega) (by have := HA.1; have := hlen.1; omega)
        exact ⟨wrap64 (x29_1 + 1), rfl, ⟨by rw [hx_]; have := HA.1; have := hq_.1; refine ⟨by omega, by omega, ?_⟩; rw [HA.1.2.2, hdr.1, List.find?_cons_of_neg (by rw [hno.1]; decide), show (x29_1 + 1).toNat = x29_1.toNat + 1 by omega]⟩, ⟨bk_ BK16⟩, ⟨bk_ BK24⟩, ⟨bk_ BK32⟩, ⟨bk_ BK180⟩, ⟨bk_ BK181⟩, ⟨bk_ BK184⟩, ⟨hb_ HB⟩⟩
      | true =>
        refine pv_ 5 HT_ ?_; refine pv_ 6 HT_ ?_; refine tv_ 7 HT_ HW_ hHeld ?_; refine tv_ 8 HT_ HW_ hHeld ?_; refine pv_ 9 HT_ ?_; refine pv_ 10 HT_ ?_; (refine done_ (done_of HT_.1 (by kernel_rfl)) ?_)
        by_cases c63 : (rd_T56 s24_4 x29_1).f2 = rd s16_0 t182
        · have hyes : Aside0 (s24_4.find? (itemOk ⟨a1_0, a1_1, a1_2⟩ (rd s16_0 t182)) = some (rd_T56 s24_4 x29_1)) := ⟨by rw [HA.1.2.2, hdr.1, List.find?_cons_of_pos (by rw [itemOk, ← et190.1, c63]; simp)]⟩
          have c63b0 := beq_iff_eq.mpr c63
          have c63b1 := bne_eq_false_iff_eq.mpr c63
          clear c63
          have h1_ : some (L ++ [prodN (rd_T56 s24_4 x29_1)]) = some L' := by rw [hyes.1] at h; exact h
          obtain rfl := Option.some.inj h1_
          clear h1_
          obtain ⟨hcz79_0, hfz79_0⟩ := cz1_ BK32
          have hcz80_0 : w92.cell? ⟨gb186, 0, none⟩ = some (.string ((rd_T56 s24_4 x29_1).f0)) := bc_ BK186 0
          have hfz80_0 := blk_frozen BK186.1 0
          have hcz80_1 : w92.cell? ⟨gb186, 1, none⟩ = some (.int .i64 ((rd_T56 s24_4 x29_1).f1.f0)) := bc_ BK186 1
          have hfz80_1 := blk_frozen BK186.1 1
          have hcz80_2 : w92.cell? ⟨gb186, 2, none⟩ = some (.int .i64 ((rd_T56 s24_4 x29_1).f1.f1)) := bc_ BK186 2
          have hfz80_2 := blk_frozen BK186.1 2
          have hcz80_3 : w92.cell? ⟨gb186, 3, none⟩ = some (.int .i64 ((rd_T56 s24_4 x29_1).f1.f2)) := bc_ BK186 3
          have hfz80_3 := blk_frozen BK186.1 3
          have hcz80_4 : w92.cell? ⟨gb186, 4, none⟩ = some (.int .i64 ((rd_T56 s24_4 x29_1).f2)) := bc_ BK186 4
          have hfz80_4 := blk_frozen BK186.1 4
          have hcz80_5 : w92.cell? ⟨gb186, 5, none⟩ = some (.int .i64 ((rd_T56 s24_4 x29_1).f3)) := bc_ BK186 5
          have hfz80_5 := blk_frozen BK186.1 5
          have hcz80_6 : w92.cell? ⟨gb186, 6, none⟩ = some (.int .i64 ((rd_T56 s24_4 x29_1).f4)) := bc_ BK186 6
          have hfz80_6 := blk_frozen BK186.1 6
          have rLX : Kd.R k61 61 w92 w1.heap.size (fun _ => True) (.slice A56_0 L.length c56_0) L := Kd.R_below rL (hb_ HB)
          have hLX := hL.1
          (go_wp2_with (first | ((with_reducible refine gate_builtin (b := .append) (xs := #[.tmp 44, .tmp 48]) rfl ?_); at_builtin; refine Kd.R_append k61 (w0 := w92) w1.heap.size rfl (.tmp 44) (.tmp 48) 27 61 (.agg #[(.int .i64 0), (.string ⟨#[]⟩), (.int .i64 0), (.int .i64 0), (.int .i64 0), (.int .i64 0), (.int .i64 0)]) 64 rfl Try.underlying27 info61 rfl (by decide) (by omega) (.slice A56_0 L.length c56_0) L (⟨1, (rd_T56 s24_4 x29_1).f0, 0, 0, 0, 0, 0⟩ : S61) [.int .i64 1, .string (rd_T56 s24_4 x29_1).f0, .int .i64 0, .int .i64 0, .int .i64 0, .int .i64 0, .int .i64 0] (fun _ => True) (fun _ => False) rfl rfl ?aP (fun _ hk => hk.elim) ?aF ?aO ?aB ?aS ?aL ?_; (case aP => exact k61_mkM _ _ _ (⟨1, (rd_T56 s24_4 x29_1).f0, 0, 0, 0, 0, 0⟩ : S61)); (case aF => exact fun _ _ => trivial); (case aO => exact rLX); (case aB => exact Below.refl _ _); (case aS => exact Nat.le_trans hI.size (below_size (hb_ HB))); (case aL => omega); intro v27 w27 ho hb hg hat; clear hb hat; obtain ⟨A27, c27, rfl⟩ := Kd.R_slice ho; have BKL := ak (blk_grown (bk_ BK32) hg (Kd.R_ne rLX (bk_ BK32) (by decide))); obtain ⟨hczL_0, hfzL_0⟩ := cz1_ BKL)))
          have ho28 : Kd.R k61 61 w27 w1.heap.size (fun _ => True) (.slice A27 (L.length + 1) c27) (L ++ [(⟨1, (rd_T56 s24_4 x29_1).f0, 0, 0, 0, 0, 0⟩ : S61)]) := by
            rw [List.length_append] at ho
            exact ho
          obtain ⟨hi28, ow28⟩ := PInv.put hc (hI.keep hc (hb_ HB)) rLX ho28 hg
          ((refine bodyPost_ret (results_none rfl _ _ _) rfl ?_))
          exact ⟨rfl, hi28, (Own.below (n := w1.heap.size) (hb_ HB)).trans ow28⟩
        have hno : Aside0 ((itemOk ⟨a1_0, a1_1, a1_2⟩ (rd s16_0 t182)) (rd_T56 s24_4 x29_1) = false) := ⟨by rw [itemOk, ← et190.1]; simp [c63]⟩
        have c63b0 := beq_eq_false_iff_ne.mpr c63
        have c63b1 := bne_iff_ne.mpr c63
        clear c63
        (try go_wp2)
        (go_roundg k1)
        case measure => have := HA.1; omega
        have hx_ : wrap64 (x29_1 + 1) = x29_1 + 1 := wr_ (by have := HA.1; have := hlen.1; omega) (by have := HA.1; have := hlen.1; omega)
        exact ⟨wrap64 (x29_1 + 1), rfl, ⟨by rw [hx_]; have := HA.1; have := hq_.1; refine ⟨by omega, by omega, ?_⟩; rw [HA.1.2.2, hdr.1, List.find?_cons_of_neg (by rw [hno.1]; decide), show (x29_1 + 1).toNat = x29_1.toNat + 1 by omega]⟩, ⟨bk_ BK16⟩, ⟨bk_ BK24⟩, ⟨bk_ BK32⟩, ⟨bk_ BK180⟩, ⟨bk_ BK181⟩, ⟨bk_ BK184⟩, ⟨hb_ HB⟩⟩
    have c57b0 := decide_eq_false c57
    have hf_ : s24_4.find? (itemOk ⟨a1_0, a1_1, a1_2⟩ (rd s16_0 t182)) = none := by rw [HA.1.2.2, List.drop_eq_nil_of_le (by have := HA.1; omega)]; rfl
    clear c57
    rw [hf_] at h
    obtain ⟨hcz109_0, hcz109_1, hcz109_2, hcz109_3, hcz109_4, hfz109_0, hfz109_1, hfz109_2, hfz109_3, hfz109_4⟩ := cz5_ BK24
    obtain ⟨hcz114_0, hcz114_1, hcz114_2, hfz114_0, hfz114_1, hfz114_2⟩ := cz3_ BK181
    have hq1 := best_cuts hc n ih L L' a0_0 a0_1 a0_2 a1_0 a1_1 a1_2 (rd s16_0 t182) gb184 gb180 (Nat.le_trans hI.size GE184.1) (Nat.le_trans hI.size GE180.1) hcut hL.1 h wr (hI.keep hc HB.1) BK184.1 BK180.1
    go_wp2_with (first | (go_at_call 48; (with_reducible refine hq1.mono ?_); clear hq1; rintro e w43 ⟨rfl, hi43, ow43⟩))
    (go_end0)
    exact ⟨rfl, hi43, (Own.below (n := w1.heap.size) HB.1).trans ow43⟩

theorem put_all {w0 w1 : World} {g16 g24 g32 gU : Nat} {A16_0 : Option Addr} {c16_0 : Nat} {s16_0 : List Int} {s24_0 s24_1 s24_2 s24_3 : Int} {A24_4 : Option Addr} {c24_4 : Nat} {s24_4 : List S56} (hc : PCtx w0 w1 g16 g24 g32 gU A16_0 c16_0 s16_0 s24_0 s24_1 s24_2 s24_3 A24_4 c24_4 s24_4) : ∀ (n : Nat) (L : List S61) (fr s : S23) (L' : List S61), putF s24_0 s24_1 s24_3 s24_4 s16_0 n L fr s = some L' → Puts w1 g16 g24 g32 gU L fr s L'
  | 0, _, _, _, _, h => by simp [putF] at h
  | n + 1, L, fr, s, L', h => fun w hI => best_put hc n (put_all hc n) L fr.f0 fr.f1 fr.f2 s.f0 s.f1 s.f2 L' h w hI

end Go.Proofs.Ytgacodhpniehiaa.XA
