/- Cycle: the least one of the shortest cycles, out of those that 'cycle' tells. -/
import Derived.Test.YtecbmcheojolnaaXAx0
import Derived.Test.YtecbmcheojolnaaXAx6
import Derived.Test.YtecbmcheojolnaaXAx8
import Derived.Test.YtecbmcheojolnaaHa
import Derived.Laws.Cover3
namespace Go.Proofs.Ytecbmcheojolnaa.XA
open Go.Proofs.Ytecbmcheojolnaa.Flat Go.RowKit Go.Proofs.Ytecbmcheojolnaa.Opens Go.Proofs.YtecbmcheojolnaaW.PrintWords Go.Proofs.YtecbmcheojolnaaW.PrintLast Go.Proofs.YtecbmcheojolnaaW.PrintMore
set_option linter.unusedVariables false
set_option linter.unusedSimpArgs false
def cyc_best (k : Nat) (p q : List (List Int)) : Nat → Int → List Int → Option (List Int)
  | 0, _, b => some b
  | m + 1, i, b => (precedence_cycle.f k p q i).bind fun c => cyc_best k p q m (i + 1) (if c = [] then b else if b = [] then c else if c.length < b.length then c else b)
def precedence_Cycle.f (k : Nat) (a0 : Int) (l : List S47) : Option (List Int × Int) :=
  (precedence_Check.f k a0 l).bind fun t => if t = 0 then ((precedence_listsOf.f k a0 l).bind fun p => if 0 ≤ a0 ∧ a0 ≤ 256 then (cyc_best k p.1 p.2 a0.toNat 0 []).bind fun b => (if b = [] then some ([], 9) else some (b, 0)) else none) else some ([], t)
theorem cyc_best_mono (k : Nat) (p q : List (List Int)) : ∀ m i b, LeO (cyc_best k p q m i b) (cyc_best (k + 1) p q m i b)
  | 0, _, _ => LeO.refl _
  | m + 1, i, b => by
    unfold cyc_best
    exact LeO.bind (precedence_cycle.mono _ _ _ _) (fun c => cyc_best_mono k p q m _ _)
theorem precedence_Cycle.mono : ∀ a0 a1 k, LeO (precedence_Cycle.f k a0 a1) (precedence_Cycle.f (k + 1) a0 a1) := by
  intro a0 a1 k
  unfold precedence_Cycle.f
  refine LeO.bind (precedence_Check.mono _ _ _) (fun t => LeO.ite (LeO.bind (precedence_listsOf.mono _ _ _) (fun p => LeO.ite (LeO.bind (cyc_best_mono _ _ _ _ _ _) (fun b => LeO.refl _)) (LeO.none _))) (LeO.refl _))

set_option maxHeartbeats 8000000 in
set_option maxRecDepth 100000 in
theorem precedence_Cycle.calls (k : Nat) (a0_0 : Int) (A0_1 : Option Addr) (c0_1 : Nat) (l0_1 : List (S47)) (r1 : List Int) (r2 : Int) (w : World) (hr0_1 : Kd.C k47 w A0_1 l0_1.length l0_1) (hc0_1 : l0_1.length ≤ c0_1) (h : precedence_Cycle.f k a0_0 l0_1 = some (r1, r2)) :
    Calls Try.prog 10 #[.agg #[.int .i64 a0_0, .slice A0_1 l0_1.length c0_1]] w fun e w' => ∃ v0_ : Value, e = .returned (.tuple #[v0_, .int .i64 r2]) ∧ Kd.R (Kd.int .i64) 3 w' w.heap.size (fun _ => True) v0_ r1 ∧ Below w.heap.size w w' := by
  have hu31 := Try.underlying31
  have hu50 := Try.underlying50
  have hu27 := Try.underlying27
  have HR0_1 := ak hr0_1
  have HC0_1 := ak hc0_1
  clear hr0_1 hc0_1
  have HB := ak (Below.refl w.heap.size w)
  unfold precedence_Cycle.f at h
  obtain ⟨t, A2, H⟩ := Option.bind_eq_some_iff.mp h
  clear h
  replace A2 := ak A2
  by_cases c3 : t = 0
  · rw [if_pos c3] at H
    have c3b0 : (t == 0) = true := beq_iff_eq.mpr c3
    have c3b1 : (t != 0) = false := bne_eq_false_iff_eq.mpr c3
    clear c3
    obtain ⟨⟨p, q⟩, A4, H⟩ := Option.bind_eq_some_iff.mp H
    replace A4 := ak A4
    dsimp only at H
    by_cases c5 : 0 ≤ a0_0 ∧ a0_0 ≤ 256
    · rw [if_pos c5] at H
      obtain ⟨c50, c51⟩ := c5
      obtain ⟨rb, A6, H⟩ := Option.bind_eq_some_iff.mp H
      replace A6 := ak A6
      have H' := ak H
      clear H
      go_enter Try.func10, Try.ntmps10
      go_wp2_with (first
        | ((with_reducible refine gate_dst (N := 1) rfl ?_); refine box_event ?hg (N := 1) ?hd (cs := #[.int .i64 a0_0, .slice A0_1 l0_1.length c0_1]) (t := 31) ?hr ?_; (case hd => rfl); (case hg => rfl); (case hr => (go_simp; done)); intro g1 hg w5 hbox hb; have BK1 := ak hbox; have GE1 := gw_ HB hg; replace HB := hs_ HB hb; clear hb hbox hg; obtain ⟨hcz1_0, hcz1_1, hfz1_0, hfz1_1⟩ := cz2_ BK1)
        | ((with_reducible refine gate_callee (f := 24) rfl ?_); refine goesL_ (some 10) rfl rfl Try.func24 (by kernel_rfl) rfl #[.agg #[.int .i64 a0_0, .slice A0_1 l0_1.length c0_1]] rfl am_ ?_; (with_reducible refine (precedence_Check.calls k a0_0 _ _ l0_1 t _ ?side1 ?side2 A2.1).mono ?_); (case side1 => exact (Kd.C_below HR0_1.1 HB.1)); (case side2 => exact HC0_1.1); rintro e w6 ⟨rfl, hb⟩; refine ⟨_, rfl, ?_⟩; replace BK1 := bb_ BK1 hb; replace HB := hs_ HB hb; clear hb; obtain ⟨hcz2_0, hcz2_1, hfz2_0, hfz2_1⟩ := cz2_ BK1)
        | ((with_reducible refine gate_callee (f := 28) rfl ?_); refine goesL_ (some 15) rfl rfl Try.func28 (by kernel_rfl) rfl #[.agg #[.int .i64 a0_0, .slice A0_1 l0_1.length c0_1]] rfl am_ ?_; (with_reducible refine (precedence_listsOf.calls k a0_0 _ _ l0_1 p q _ ?side1 ?side2 A4.1).mono ?_); (case side1 => exact (Kd.C_below HR0_1.1 HB.1)); (case side2 => exact HC0_1.1); rintro e w7 ⟨v8, v9, rfl, ho0, ho1, hb⟩; refine ⟨_, rfl, ?_⟩; obtain ⟨A8, c8, eo8⟩ := Kd.S_slice ho0; subst eo8; obtain ⟨A9, c9, eo9⟩ := Kd.S_slice ho1; subst eo9; have HP := ak (Kd.S_reads' ho0).2; have HQ := ak (Kd.S_reads' ho1).2; replace BK1 := bb_ BK1 hb; replace HB := hs_ HB hb; have HW := ak (Below.refl w7.heap.size w7); clear hb ho0 ho1; obtain ⟨hcz3_0, hcz3_1, hfz3_0, hfz3_1⟩ := cz2_ BK1)
        | ((with_reducible refine gate_dst (N := 5) rfl ?_); refine box_event ?hg (N := 5) ?hd (cs := #[.slice none 0 0, .slice none 0 0]) (t := 50) ?hr ?_; (case hd => rfl); (case hg => rfl); (case hr => (go_simp; done)); intro g5 hg w10 hbox hb; have BK5 := ak hbox; have GE5 := gw_ HB hg; have GW5 := gw_ HW hg; have NB15 := nl_ BK1 hg; have NB51 := nr_ BK1 hg; replace BK1 := bb_ BK1 hb; replace HB := hs_ HB hb; replace HW := hs_ HW hb; clear hb hbox hg; have hnb := NB51.1; have hnc := NB15.1; obtain ⟨hcz4_0, hcz4_1, hfz4_0, hfz4_1⟩ := cz2_ BK5; obtain ⟨hcz5_0, hcz5_1, hfz5_0, hfz5_1⟩ := cz2_ BK1))
      go_loopw [6, 18] (fun vb vi w' => ∃ (m : Nat) (i : Int) (b : List Int), 0 ≤ i ∧ i + m = a0_0 ∧ vi = .int .i64 i ∧ Aside0 (cyc_best k p q m i b = some rb) ∧ Aside0 (NilIf b vb) ∧ Aside0 (Kd.R (Kd.int .i64) 3 w' w.heap.size (fun _ => True) vb b) ∧ Aside0 (w'.heap[g1]? = some (.cells #[.int .i64 a0_0, (.slice A0_1 l0_1.length c0_1)] 31 (0, 0))) ∧ Aside0 (w'.heap[g5]? = some (.cells #[(.slice A8 p.length c8), (.slice A9 q.length c9)] 50 (0, 0))) ∧ Aside0 (Below w.heap.size w w') ∧ Aside0 (Below w7.heap.size w7 w')) (fun _ i _ => (a0_0 - intOf i).toNat)
      case atStart =>
        refine ⟨a0_0.toNat, 0, [], by omega, by omega, rfl, A6, ⟨fun _ => rfl⟩, ⟨Kd.R_nil _ _ _ _ _⟩, ⟨?_⟩, ⟨?_⟩, ⟨?_⟩, ⟨?_⟩⟩
        · exact blk_far (blk_far BK1.1 NB15.1 _) NB15.1 _
        · exact blk_put (cs := #[.slice A8 p.length c8, .slice none 0 0]) (blk_put (cs := #[.slice none 0 0, .slice none 0 0]) BK5.1 0 _ rfl) 1 _ rfl
        · exact below_set (below_set HB.1 GE5.1) GE5.1
        exact below_set (below_set HW.1 GW5.1) GW5.1
      obtain ⟨m, i, b, hi0, him, rfl, HA, HN, HO, BK1, BK5, HB, HW⟩ := hrel
      cases m with
      | zero =>
        have hi : decide (i < a0_0) = false := decide_eq_false (by omega)
        have H := HA.1
        simp only [cyc_best, Option.some.injEq] at H
        subst H
        clear him hi0
        by_cases hb : b = []
        · have HN' := HN.1 hb
          subst hb
          subst HN'
          have H := H'.1
          rw [if_pos rfl] at H
          simp only [Option.some.injEq, Prod.mk.injEq] at H
          obtain ⟨rfl, rfl⟩ := H
          obtain ⟨hcz1_0, hcz1_1, hfz1_0, hfz1_1⟩ := cz2_ BK1
          have hq : ∀ W : World, (binOp .eql 27 (.slice none 0 0) (.slice none 0 0)).run Try.prog W = .ok (.bool true) W := fun W => _root_.Go.run_eql_slice_nil W 27 3 none 0 0 Try.underlying27
          go_wp2
          go_ret2
          exact ⟨_, rfl, Kd.R_nil _ _ _ _ _, HB.1⟩
        have H := H'.1
        rw [if_neg hb] at H
        simp only [Option.some.injEq, Prod.mk.injEq] at H
        obtain ⟨rfl, rfl⟩ := H
        obtain ⟨g, cp, hv, _⟩ := Kd.R_form HO.1 (List.length_pos_iff.2 hb)
        subst hv
        have hb' := ak hb
        clear hb
        obtain ⟨hcz1_0, hcz1_1, hfz1_0, hfz1_1⟩ := cz2_ BK1
        have hq : ∀ W : World, (binOp .eql 27 (.slice (some ⟨g, 0, none⟩) b.length cp) (.slice none 0 0)).run Try.prog W = .ok (.bool false) W := fun W => _root_.Go.run_eql_slice_nil W 27 3 (some ⟨g, 0, none⟩) b.length cp Try.underlying27
        go_wp2
        go_ret2
        exact ⟨_, rfl, HO.1, HB.1⟩
      | succ m =>
        have hi : decide (i < a0_0) = true := decide_eq_true (by omega)
        have H := HA.1
        simp only [cyc_best] at H
        obtain ⟨c, A7, H⟩ := Option.bind_eq_some_iff.mp H
        replace A7 := ak A7
        replace H := ak H
        have hii := ak (And.intro hi0 him)
        clear HA hi0 him
        obtain ⟨hcz1_0, hcz1_1, hfz1_0, hfz1_1⟩ := cz2_ BK1
        obtain ⟨hcz5_0, hcz5_1, hfz5_0, hfz5_1⟩ := cz2_ BK5
        have hq0 : ∀ W : World, (binOp .eql 27 (.slice none 0 0) (.slice none 0 0)).run Try.prog W = .ok (.bool true) W := fun W => _root_.Go.run_eql_slice_nil W 27 3 none 0 0 Try.underlying27
        have hq1 : ∀ W : World, (binOp .neq 27 (.slice none 0 0) (.slice none 0 0)).run Try.prog W = .ok (.bool false) W := fun W => _root_.Go.run_neq_slice_nil (w := W) 27 3 none 0 0 Try.underlying27
        have hq2 : ∀ (W : World) (g n cp : Nat), (binOp .eql 27 (.slice (some ⟨g, 0, none⟩) n cp) (.slice none 0 0)).run Try.prog W = .ok (.bool false) W := fun W g n cp => _root_.Go.run_eql_slice_nil W 27 3 (some ⟨g, 0, none⟩) n cp Try.underlying27
        have hq3 : ∀ (W : World) (g n cp : Nat), (binOp .neq 27 (.slice (some ⟨g, 0, none⟩) n cp) (.slice none 0 0)).run Try.prog W = .ok (.bool true) W := fun W g n cp => _root_.Go.run_neq_slice_nil (w := W) 27 3 (some ⟨g, 0, none⟩) n cp Try.underlying27
        by_cases hc : c = []
        · have hc' := ak hc
          clear hc
          go_wp2_with ((with_reducible refine gate_callee (f := 29) rfl ?_); refine goesL_ (some 23) rfl rfl Try.func29 (by kernel_rfl) rfl #[.agg #[.slice A8 p.length c8, .slice A9 q.length c9], .int .i64 i] rfl am_ ?_; (with_reducible refine (precedence_cycle.calls k _ _ p _ _ q i c _ ?side1 ?side2 ?side3 ?side4 A7.1).mono ?_); (case side1 => exact Kd.C_below HP.1.2 HW.1); (case side2 => exact HP.1.1); (case side3 => exact Kd.C_below HQ.1.2 HW.1); (case side4 => exact HQ.1.1); rintro e w8 ⟨v, rfl, hn, ho, hb⟩; refine ⟨_, rfl, ?_⟩; have HOc := ak (Kd.R_lower ho (below_size HB.1)); replace HO := ak (Kd.R_below HO.1 hb); replace BK1 := bb_ BK1 hb; replace BK5 := bb_ BK5 hb; replace HB := hs_ HB hb; replace HW := hs_ HW hb; have HNc := ak hn; clear hb ho hn; have hv_ := HNc.1 hc'.1; subst hv_)
          go_roundw
          case measure =>
            have hw : wrap64 (i + 1) = i + 1 := by have := hii.1; unfold wrap64; omega
            have := hii.1; simp only [intOf, hw]; omega
          have hw : wrap64 (i + 1) = i + 1 := by have := hii.1; unfold wrap64; omega
          refine ⟨m, i + 1, b, by have := hii.1; omega, by have := hii.1; omega, by rw [hw], ⟨?_⟩, HN, HO, BK1, BK5, HB, HW⟩
          have h_ := H.1
          rw [if_pos hc'.1] at h_
          exact h_
        by_cases hb : b = []
        · have hc' := ak hc
          have hb' := ak hb
          have hv_ := HN.1 hb
          subst hv_
          clear hc hb
          go_wp2_with ((with_reducible refine gate_callee (f := 29) rfl ?_); refine goesL_ (some 23) rfl rfl Try.func29 (by kernel_rfl) rfl #[.agg #[.slice A8 p.length c8, .slice A9 q.length c9], .int .i64 i] rfl am_ ?_; (with_reducible refine (precedence_cycle.calls k _ _ p _ _ q i c _ ?side1 ?side2 ?side3 ?side4 A7.1).mono ?_); (case side1 => exact Kd.C_below HP.1.2 HW.1); (case side2 => exact HP.1.1); (case side3 => exact Kd.C_below HQ.1.2 HW.1); (case side4 => exact HQ.1.1); rintro e w8 ⟨v, rfl, hn, ho, hb⟩; refine ⟨_, rfl, ?_⟩; have HOc := ak (Kd.R_lower ho (below_size HB.1)); replace HO := ak (Kd.R_below HO.1 hb); replace BK1 := bb_ BK1 hb; replace BK5 := bb_ BK5 hb; replace HB := hs_ HB hb; replace HW := hs_ HW hb; have HNc := ak hn; clear hb ho hn; obtain ⟨gc, cc, hv, _⟩ := Kd.R_form HOc.1 (List.length_pos_iff.2 hc'.1); subst hv)
          go_roundw
          case measure =>
            have hw : wrap64 (i + 1) = i + 1 := by have := hii.1; unfold wrap64; omega
            have := hii.1; simp only [intOf, hw]; omega
          have hw : wrap64 (i + 1) = i + 1 := by have := hii.1; unfold wrap64; omega
          refine ⟨m, i + 1, c, by have := hii.1; omega, by have := hii.1; omega, by rw [hw], ⟨?_⟩, ⟨fun h_ => absurd h_ hc'.1⟩, HOc, BK1, BK5, HB, HW⟩
          have h_ := H.1
          rw [if_neg hc'.1, if_pos hb'.1] at h_
          exact h_
        by_cases hl : c.length < b.length
        · have hc' := ak hc
          have hb' := ak hb
          obtain ⟨gb, cb, hvb, _⟩ := Kd.R_form HO.1 (List.length_pos_iff.2 hb)
          subst hvb
          have hl1 : decide (c.length < b.length) = true := decide_eq_true hl
          have hl2 := ak hl
          clear hc hb hl
          go_wp2_with ((with_reducible refine gate_callee (f := 29) rfl ?_); refine goesL_ (some 23) rfl rfl Try.func29 (by kernel_rfl) rfl #[.agg #[.slice A8 p.length c8, .slice A9 q.length c9], .int .i64 i] rfl am_ ?_; (with_reducible refine (precedence_cycle.calls k _ _ p _ _ q i c _ ?side1 ?side2 ?side3 ?side4 A7.1).mono ?_); (case side1 => exact Kd.C_below HP.1.2 HW.1); (case side2 => exact HP.1.1); (case side3 => exact Kd.C_below HQ.1.2 HW.1); (case side4 => exact HQ.1.1); rintro e w8 ⟨v, rfl, hn, ho, hb⟩; refine ⟨_, rfl, ?_⟩; have HOc := ak (Kd.R_lower ho (below_size HB.1)); replace HO := ak (Kd.R_below HO.1 hb); replace BK1 := bb_ BK1 hb; replace BK5 := bb_ BK5 hb; replace HB := hs_ HB hb; replace HW := hs_ HW hb; have HNc := ak hn; clear hb ho hn; obtain ⟨gc, cc, hv, _⟩ := Kd.R_form HOc.1 (List.length_pos_iff.2 hc'.1); subst hv)
          go_roundw
          case measure =>
            have hw : wrap64 (i + 1) = i + 1 := by have := hii.1; unfold wrap64; omega
            have := hii.1; simp only [intOf, hw]; omega
          have hw : wrap64 (i + 1) = i + 1 := by have := hii.1; unfold wrap64; omega
          refine ⟨m, i + 1, c, by have := hii.1; omega, by have := hii.1; omega, by rw [hw], ⟨?_⟩, ⟨fun h_ => absurd h_ hc'.1⟩, HOc, BK1, BK5, HB, HW⟩
          have h_ := H.1
          rw [if_neg hc'.1, if_neg hb'.1, if_pos hl2.1] at h_
          exact h_
        have hc' := ak hc
        have hb' := ak hb
        obtain ⟨gb, cb, hvb, _⟩ := Kd.R_form HO.1 (List.length_pos_iff.2 hb)
        subst hvb
        have hl1 : decide (c.length < b.length) = false := decide_eq_false hl
        have hl2 := ak hl
        clear hc hb hl
        go_wp2_with ((with_reducible refine gate_callee (f := 29) rfl ?_); refine goesL_ (some 23) rfl rfl Try.func29 (by kernel_rfl) rfl #[.agg #[.slice A8 p.length c8, .slice A9 q.length c9], .int .i64 i] rfl am_ ?_; (with_reducible refine (precedence_cycle.calls k _ _ p _ _ q i c _ ?side1 ?side2 ?side3 ?side4 A7.1).mono ?_); (case side1 => exact Kd.C_below HP.1.2 HW.1); (case side2 => exact HP.1.1); (case side3 => exact Kd.C_below HQ.1.2 HW.1); (case side4 => exact HQ.1.1); rintro e w8 ⟨v, rfl, hn, ho, hb⟩; refine ⟨_, rfl, ?_⟩; have HOc := ak (Kd.R_lower ho (below_size HB.1)); replace HO := ak (Kd.R_below HO.1 hb); replace BK1 := bb_ BK1 hb; replace BK5 := bb_ BK5 hb; replace HB := hs_ HB hb; replace HW := hs_ HW hb; have HNc := ak hn; clear hb ho hn; obtain ⟨gc, cc, hv, _⟩ := Kd.R_form HOc.1 (List.length_pos_iff.2 hc'.1); subst hv)
        go_roundw
        case measure =>
          have hw : wrap64 (i + 1) = i + 1 := by have := hii.1; unfold wrap64; omega
          have := hii.1; simp only [intOf, hw]; omega
        have hw : wrap64 (i + 1) = i + 1 := by have := hii.1; unfold wrap64; omega
        refine ⟨m, i + 1, b, by have := hii.1; omega, by have := hii.1; omega, by rw [hw], ⟨?_⟩, ⟨fun h_ => absurd h_ hb'.1⟩, HO, BK1, BK5, HB, HW⟩
        have h_ := H.1
        rw [if_neg hc'.1, if_neg hb'.1, if_neg hl2.1] at h_
        exact h_
    rw [if_neg c5] at H
    cases H
  rw [if_neg c3] at H
  have c3b0 : (t == 0) = false := beq_eq_false_iff_ne.mpr c3
  have c3b1 : (t != 0) = true := bne_iff_ne.mpr c3
  clear c3
  simp only [Option.some.injEq, Prod.mk.injEq] at H
  obtain ⟨rfl, rfl⟩ := H
  go_enter Try.func10, Try.ntmps10
  go_wp2_with (first
      | ((with_reducible refine gate_dst (N := 1) rfl ?_); refine box_event ?hg (N := 1) ?hd (cs := #[.int .i64 a0_0, .slice A0_1 l0_1.length c0_1]) (t := 31) ?hr ?_; (case hd => rfl); (case hg => rfl); (case hr => (go_simp; done)); intro g1 hg w5 hbox hb; have BK1 := ak hbox; have GE1 := gw_ HB hg; replace HB := hs_ HB hb; clear hb hbox hg; obtain ⟨hcz1_0, hcz1_1, hfz1_0, hfz1_1⟩ := cz2_ BK1)
      | ((with_reducible refine gate_callee (f := 24) rfl ?_); refine goesL_ (some 10) rfl rfl Try.func24 (by kernel_rfl) rfl #[.agg #[.int .i64 a0_0, .slice A0_1 l0_1.length c0_1]] rfl am_ ?_; (with_reducible refine (precedence_Check.calls k a0_0 _ _ l0_1 t _ ?side1 ?side2 A2.1).mono ?_); (case side1 => exact (Kd.C_below HR0_1.1 HB.1)); (case side2 => exact HC0_1.1); rintro e w6 ⟨rfl, hb⟩; refine ⟨_, rfl, ?_⟩; replace BK1 := bb_ BK1 hb; replace HB := hs_ HB hb; clear hb; obtain ⟨hcz2_0, hcz2_1, hfz2_0, hfz2_1⟩ := cz2_ BK1))
  go_ret2
  exact ⟨_, rfl, Kd.R_nil _ _ _ _ _, hb_ HB⟩
end Go.Proofs.Ytecbmcheojolnaa.XA
