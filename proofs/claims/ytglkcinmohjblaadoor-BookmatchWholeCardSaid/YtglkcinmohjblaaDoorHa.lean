import Derived.Test.YtglkcinmohjblaaDoorXAx13
import Derived.Test.YtglkcinmohjblaaDoorXAx27
import Derived.Maps.Own
import Derived.Maps.OwnOps
import Derived.Maps.Views
namespace Go.Proofs.YtglkcinmohjblaaDoor.XA
open Flat Go.RowKit Opens YtglkcinmohjblaaDoorW.PrintWords YtglkcinmohjblaaDoorW.PrintLast YtglkcinmohjblaaDoorW.PrintMore
attribute [local go_sem] max2_int min2_int max_two min_two max_three min_three max_four min_four cell_some cell_same
set_option linter.unusedVariables false
set_option linter.unusedSimpArgs false
theorem plainElem_bool_inv {H : Type} {P : Program} {e : TypeId} (he : P.underlying e = some .bool) {v : Value} {z : DataW H × List MemPlace} (h : plainElem P e v = some z) : ∃ a, v = .bool a ∧ z = (.lit (.bool a), []) := by
  unfold plainElem at h
  rw [he] at h
  cases v <;> simp at h
  exact ⟨_, rfl, h.symm⟩
/-- 'm[k]' of a map[K]bool that the call made. -/
theorem look_run {H : Type} {P : Program} {W : World} {t k e : TypeId} (K : Maps.Keyed P k) (ht : P.underlying t = some (.map k e)) (he : P.underlying e = some .bool) (hz : ∀ w, (zeroValue e).run P w = .ok (.bool false) w) {b n : Nat} {D : DataW H}
    (hown : W.ownsMap P k (plainElem P e) b n D) {key : Value} {kl : Lit} (hkey : keyOf P k key = some kl) {c : Bool} (hc : D.atKey kl (.lit (.bool false)) = .lit (.bool c)) : (Instr.lookup t (.map (some b)) key false).run P W = .ok (.bool c) W := by
  obtain ⟨v, ps, hrun, hv⟩ := hown.lookup K ht (hz W) (plainElem_bool he false) hkey
  obtain ⟨c', rfl, hc'⟩ := plainElem_bool_inv he hv
  have e1 : (.lit (.bool c) : DataW H) = .lit (.bool c') := hc.symm.trans (congrArg Prod.fst hc')
  injection e1 with e1
  injection e1 with e1
  subst e1
  exact hrun
theorem om_heap {H : Type} {P : Program} {k b n : Nat} {R : Value → Option (DataW H × List MemPlace)} {D : DataW H} {w w1 : World} (h : w.ownsMap P k R b n D) (e : w1.heap[b]? = w.heap[b]?) : w1.ownsMap P k R b n D := by
  obtain ⟨es, c, h1, h2⟩ := h
  exact ⟨es, c, e.trans h1, h2⟩
theorem om_set {H : Type} {P : Program} {k b n : Nat} {R : Value → Option (DataW H × List MemPlace)} {D : DataW H} {w : World} (h : w.ownsMap P k R b n D) {p : Addr} (hne : b ≠ p.block) (v : Value) : (w.setCell p v).ownsMap P k R b n D :=
  om_heap h (Below.heap_setCell w p v b hne)
theorem om_below {H : Type} {P : Program} {k b n : Nat} {R : Value → Option (DataW H × List MemPlace)} {D : DataW H} {w w1 : World} (h : w.ownsMap P k R b n D) (hb : Below w.heap.size w w1) : w1.ownsMap P k R b n D := om_heap h (hb.block b h.lt)
theorem om_drewN {H : Type} {P : Program} {k b n : Nat} {R : Value → Option (DataW H × List MemPlace)} {D : DataW H} {w : World} (h : w.ownsMap P k R b n D) (m : Nat) : (w.drewN m).ownsMap P k R b n D := h
/-- What the map tells: the numbers that stand in it. -/
def Sees (D : DataW Unit) (s : List Int) : Prop := Maps.IsMap D ∧ ∀ x : Int, D.atKey (.int .i64 x) (.lit (.bool false)) = .lit (.bool (decide (x ∈ s)))
theorem sees_nil : Sees (.map []) [] := ⟨Maps.isMap_empty, fun x => by simpa using WideAt.atKey_none (entries := []) (.lit (.bool false)) (by simp)⟩
theorem sees_put {D : DataW Unit} {s : List Int} (h : Sees D s) (y : Int) : Sees (D.put (.int .i64 y) (.lit (.bool true))) (y :: s) := ⟨h.1.put _ _, fun x => by
  by_cases e : x = y
  · subst e
    rw [Maps.atKey_put_same h.1 (by trivial)]
    simp
  · rw [Maps.atKey_put_other (by intro q; injection q with _ q; exact e q), h.2]
    simp [e]⟩
/-- Whether a row's indices are different ones of n slabs (s: those that stand ahead). -/
def okRow (n : Int) : List S39 → List Int → Bool
  | [], _ => true
  | x :: r, s => if x.f0 < 0 then false else if x.f0 ≥ n then false else if x.f0 ∈ s then false else okRow n r (x.f0 :: s)
def m_Cost.f (k : Nat) (l0 : List (S62)) (l1 : List (S39)) : Option (Int × Int) := (m_check.f k l0).bind fun t => (if t = 0 then (if okRow (l0.length : Int) l1 [] = true then ((m_cost.f k l0 l1).bind fun c => (some (c, 0))) else (some (0, 1))) else (some (0, t)))
theorem m_Cost.mono : ∀ a0 a1 k, LeO (m_Cost.f k a0 a1) (m_Cost.f (k + 1) a0 a1) := by
  intro a0 a1 k
  unfold m_Cost.f
  repeat' first
  | (with_reducible exact m_check.mono _ _)
  | (with_reducible exact m_cost.mono _ _ _)
  | (with_reducible exact LeO.refl _)
  | (with_reducible refine LeO.ite ?_ ?_)
  | (with_reducible refine LeO.bind ?_ (fun _ => ?_))
theorem rd39_drop {l : List S39} {k : Nat} (h : k < l.length) : l.drop k = rd_T39 l k :: l.drop (k + 1) := by
  rw [List.drop_eq_getElem_cons h]
  congr 1
  simp [rd_T39, List.getD_eq_getElem?_getD, List.getElem?_eq_getElem h]
theorem cost_keyed : Maps.Keyed Tryd.prog 3 := Maps.int_keyed Tryd.underlying3
theorem cost_zero (w : World) : (zeroValue 4).run Tryd.prog w = .ok (.bool false) w := by kernel_rfl
set_option maxRecDepth 100000 in
set_option maxHeartbeats 2000000 in
theorem m_Cost.calls (k : Nat) (A0 : Option Addr) (c0 : Nat) (l0 : List (S62)) (A1 : Option Addr) (c1 : Nat) (l1 : List (S39)) (r1 : Int) (r2 : Int) (w : World) (hr0 : Kd.C k62 w A0 l0.length l0) (hc0 : l0.length ≤ c0) (hr1 : Kd.C k39 w A1 l1.length l1) (hc1 : l1.length ≤ c1) (h : m_Cost.f k l0 l1 = some (r1, r2)) :
    Calls Tryd.prog 20 #[.slice A0 l0.length c0, .slice A1 l1.length c1] w fun e w' => e = .returned (.tuple #[.int .i64 r1, .int .i64 r2]) ∧ Below w.heap.size w w' := by
  have hmm := @run_makeMap Tryd.prog
  have hu39 := Tryd.underlying39
  have hm0 : l0.length ≤ 9223372036854775807 := hr0.2.1
  have hm1 : l1.length ≤ 9223372036854775807 := hr1.2.1
  have HR0 := Aside0.mk hr0
  have HC0 := Aside0.mk hc0
  have HR1 := Aside0.mk hr1
  have HC1 := Aside0.mk hc1
  clear hr0 hc0 hr1 hc1
  have HB := Aside0.mk (Below.refl w.heap.size w)
  have H : ((m_check.f k l0).bind fun t => (if t = 0 then (if okRow (l0.length : Int) l1 [] = true then ((m_cost.f k l0 l1).bind fun c => (some (c, 0))) else (some (0, 1))) else (some (0, t)))) = some (r1, r2) := h
  clear h
  replace H := Option.bind_eq_some_iff.mp H
  obtain ⟨t, A30, H⟩ := H
  have A3 := Aside0.mk A30
  clear A30
  by_cases c4 : t = 0
  · rw [if_pos c4] at H
    have c4b0 : (t == 0) = true := beq_iff_eq.mpr c4
    have c4b1 : (t != 0) = false := bne_eq_false_iff_eq.mpr c4
    clear c4
    have H' := Aside0.mk H
    clear H
    go_enter Tryd.func20, Tryd.ntmps20
    go_wp2_with (first | (go_at_call 34; (with_reducible refine (m_check.calls k (fun k_ => k_ < w.heap.size) _ _ l0 t _ ?side1 A3.out).mono ?_); (case side1 => exact Kd.V_mk HC0.out (Kd.F_below (Kd.C_F k62_heap HR0.out) HB.out)); rintro e w6 ⟨rfl, hb⟩; have n1_ := Aside0.mk (below_step HB.out hb); clear HB; have HB := n1_; clear n1_; (try clear hb)))
    have hB6 := below_size HB.out
    go_loopw [18] (fun v18 wr => ∃ (j : Nat) (s : List Int) (D : DataW Unit), j ≤ l1.length ∧ v18 = .int .i64 j ∧ Aside0 (okRow (l0.length : Int) (l1.drop j) s = okRow (l0.length : Int) l1 []) ∧ Aside0 (wr.ownsMap Tryd.prog 3 (plainElem Tryd.prog 4) w6.heap.size j D) ∧ Aside0 (Sees D s) ∧ Aside0 (Below w.heap.size w wr)) (fun v18 _ => l1.length - (intOf v18).toNat)
    case atStart => exact ⟨0, [], .map [], Nat.zero_le _, rfl, ⟨rfl⟩, ⟨World.ownsMap_made _ _ _ _⟩, ⟨sees_nil⟩, ⟨below_alloc HB.out _⟩⟩
    case round =>
      clear HB
      obtain ⟨j, s, D, hj, rfl, HM, OM, HS, HB⟩ := hrel
      have OMl := OM.out.lt
      by_cases hlt : j < l1.length
      · obtain ⟨ad, e1, hx0, hx1⟩ := at_T39 HR1.out (j : Int) (by omega) (by omega)
        cases e1
        rw [Int.toNat_natCast] at hx0 hx1
        replace hx0 := (HB.out.cell (World.block_lt_of_cell? w _ hx0)).trans hx0
        replace hx1 := (HB.out.cell (World.block_lt_of_cell? w _ hx1)).trans hx1
        have HM' := HM.out
        clear HM
        rw [rd39_drop hlt] at HM'
        simp only [okRow] at HM'
        generalize rd_T39 l1 (j : Int) = x at hx0 hx1 HM'
        have c1b : decide ((j : Int) < (l1.length : Int)) = true := decide_eq_true (by omega)
        by_cases q1 : x.f0 < 0
        · rw [if_pos q1] at HM'
          have H := H'.out
          clear H'
          rw [← HM', if_neg (by simp)] at H
          simp only [Option.some.injEq, Prod.mk.injEq] at H
          obtain ⟨rfl, rfl⟩ := H
          clear HM'
          have q1b : decide (x.f0 < 0) = true := decide_eq_true q1
          go_wp2_with ((with_reducible refine gate_dst (N := 9) rfl ?_); refine box_event ?hg (N := 9) ?hd (cs := #[.int .i64 0, .bool false]) (t := 39) ?hr ?_; (case hd => rfl); (case hg => rfl); (case hr => (go_simp; done)); intro gb hg_ w9 hbox hb; replace OM := Aside0.mk (om_below OM.out hb); have BK := Aside0.mk hbox; have GE := gw_ HB hg_; replace HB := hs_ HB hb; have hne : w6.heap.size ≠ gb := (by omega); clear hb hbox hg_; obtain ⟨hcz0, hcz1, hfz0, hfz1⟩ := cz2_ BK)
          go_ret2
          exact ⟨rfl, hb_ HB⟩
        · rw [if_neg q1] at HM'
          have q1b : decide (x.f0 < 0) = false := decide_eq_false q1
          by_cases q2 : x.f0 ≥ (l0.length : Int)
          · rw [if_pos q2] at HM'
            have H := H'.out
            clear H'
            rw [← HM', if_neg (by simp)] at H
            simp only [Option.some.injEq, Prod.mk.injEq] at H
            obtain ⟨rfl, rfl⟩ := H
            clear HM'
            have q2b : decide (x.f0 ≥ (l0.length : Int)) = true := decide_eq_true q2
            go_wp2_with ((with_reducible refine gate_dst (N := 9) rfl ?_); refine box_event ?hg (N := 9) ?hd (cs := #[.int .i64 0, .bool false]) (t := 39) ?hr ?_; (case hd => rfl); (case hg => rfl); (case hr => (go_simp; done)); intro gb hg_ w9 hbox hb; replace OM := Aside0.mk (om_below OM.out hb); have BK := Aside0.mk hbox; have GE := gw_ HB hg_; replace HB := hs_ HB hb; have hne : w6.heap.size ≠ gb := (by omega); clear hb hbox hg_; obtain ⟨hcz0, hcz1, hfz0, hfz1⟩ := cz2_ BK)
            go_ret2
            exact ⟨rfl, hb_ HB⟩
          · rw [if_neg q2] at HM'
            have q2b : decide (x.f0 ≥ (l0.length : Int)) = false := decide_eq_false q2
            have hwf := Aside0.mk (WalkArith.wf_i64 (n := x.f0) (by omega))
            have hal := OM.out.alloc (.cells #[.int .i64 x.f0, .bool x.f1] 39)
            by_cases q3 : x.f0 ∈ s
            · rw [if_pos q3] at HM'
              have H := H'.out
              clear H'
              rw [← HM', if_neg (by simp)] at H
              simp only [Option.some.injEq, Prod.mk.injEq] at H
              obtain ⟨rfl, rfl⟩ := H
              clear HM'
              have hlook := look_run cost_keyed Tryd.underlying78 Tryd.underlying4 cost_zero hal (Maps.keyOf_int_mk Tryd.underlying3 hwf.out) ((HS.out.2 x.f0).trans (by rw [decide_eq_true q3]))
              have hal' := Aside0.mk hal
              clear hal
              go_wp2
              go_ret2
              exact ⟨rfl, below_alloc HB.out _⟩
            · rw [if_neg q3] at HM'
              have HM := Aside0.mk HM'
              clear HM'
              have hlook := look_run cost_keyed Tryd.underlying78 Tryd.underlying4 cost_zero hal (Maps.keyOf_int_mk Tryd.underlying3 hwf.out) ((HS.out.2 x.f0).trans (by rw [decide_eq_false q3]))
              have hal' := Aside0.mk hal
              clear hal
              go_wp2_with (first | (at_mapUpdate; refine wpList_mapUpdate_own _ rfl (.tmp 38) (.tmp 40) (.const (.bool true)) 78 rfl 3 4 cost_keyed Tryd.underlying78 (plainElem Tryd.prog 4) w6.heap.size j D rfl hal'.out (by unfold maxLen; omega) (.int .i64 x.f0) (.bool true) (.int .i64 x.f0) rfl rfl (Maps.keyOf_int_mk Tryd.underlying3 hwf.out) (.lit (.bool true)) [] (plainElem_bool Tryd.underlying4 true) ?_; intro w1 hown1 hgrow1))
              have s1 := hgrow1.size
              go_roundw
              case measure => simp [intOf]; omega
              case rel => exact ⟨j + 1, x.f0 :: s, _, by omega, by go_num, ⟨HM.out⟩, ⟨hown1⟩, ⟨sees_put HS.out x.f0⟩, ⟨(below_alloc HB.out _).grown hgrow1 (by simp; omega) (fun j hj => by cases hj; exact hB6)⟩⟩
      · have c1b : decide ((j : Int) < (l1.length : Int)) = false := decide_eq_false (by omega)
        have HM' := HM.out
        rw [List.drop_of_length_le (by omega)] at HM'
        simp only [okRow] at HM'
        have H := H'.out
        clear H'
        rw [← HM', if_pos rfl] at H
        clear HM' HM
        replace H := Option.bind_eq_some_iff.mp H
        obtain ⟨t2, A50, H⟩ := H
        have A5 := Aside0.mk A50
        clear A50
        simp only [Option.some.injEq, Prod.mk.injEq] at H
        obtain ⟨rfl, rfl⟩ := H
        go_wp2_with (first | (go_at_call 41; (with_reducible refine (m_cost.calls k _ _ l0 _ _ l1 t2 _ ?side1 ?side2 ?side3 ?side4 A5.out).mono ?_); (case side1 => exact Kd.C_below HR0.out (hb_ HB)); (case side2 => exact HC0.out); (case side3 => exact Kd.C_below HR1.out (hb_ HB)); (case side4 => exact HC1.out); rintro e w7 ⟨rfl, hb⟩; replace HB := hs_ HB hb; (try clear hb)))
        go_ret2
        exact ⟨rfl, hb_ HB⟩
  · rw [if_neg c4] at H
    have c4b0 : (t == 0) = false := beq_eq_false_iff_ne.mpr c4
    have c4b1 : (t != 0) = true := bne_iff_ne.mpr c4
    simp only [Option.some.injEq, Prod.mk.injEq] at H
    obtain ⟨rfl, rfl⟩ := H
    go_enter Tryd.func20, Tryd.ntmps20
    go_wp2_with (first | (go_at_call 34; (with_reducible refine (m_check.calls k (fun k_ => k_ < w.heap.size) _ _ l0 t _ ?side1 A3.out).mono ?_); (case side1 => exact Kd.V_mk HC0.out (Kd.F_below (Kd.C_F k62_heap HR0.out) HB.out)); rintro e w6 ⟨rfl, hb⟩; have n1_ := Aside0.mk (below_step HB.out hb); clear HB; have HB := n1_; clear n1_; (try clear hb)))
    go_ret2
    exact ⟨rfl, hb_ HB⟩
end Go.Proofs.YtglkcinmohjblaaDoor.XA
