-- written by xprint.py, this project's own program (wip/), over the words of print.sh
import Derived.Test.YtjlljjnkjhdljaaXAx0
import Derived.Test.YtjlljjnkjhdljaaXAx21
namespace Go.Proofs.Ytjlljjnkjhdljaa.XA
open Go.RowKit Go.Proofs.Ytjlljjnkjhdljaa.Opens Go.Proofs.YtjlljjnkjhdljaaW.PrintWords Go.Proofs.YtjlljjnkjhdljaaW.PrintLast Go.Proofs.YtjlljjnkjhdljaaW.PrintMore
attribute [local go_sem] max2_int min2_int max_two min_two max_three min_three max_four min_four cell_some cell_same   -- for this text's walks alone
set_option linter.unusedVariables false
set_option linter.unusedSimpArgs false

/-! ### gangsawref40_Near: function 31 -/
mutual
def gangsawref40_Near.l0 : Nat → List (List (S46)) → Int → Option (Bool)
  | 0, _, _ => none
  | k + 1, x0, x3 => if x3 < (x0.length : Int) then (gangsawref40_Near.l1 k x0 x3 0) else (some true)
def gangsawref40_Near.l1 : Nat → List (List (S46)) → Int → Int → Option (Bool)
  | 0, _, _, _ => none
  | k + 1, x0, x3, x4 => if 0 ≤ x3 then (if x3 < (x0.length : Int) then (if x4 < ((rd_L2 x0 x3).length : Int) then (if 0 ≤ x4 then ((gangsawref40_near.f ((rd_T46 (rd_L2 x0 x3) x4).f0)).bind fun t514 => (if t514 = true then ((gangsawref40_near.f ((rd_T46 (rd_L2 x0 x3) x4).f1)).bind fun t517 => (if t517 = true then (gangsawref40_Near.l1 k x0 x3 (wrap64 (x4 + 1))) else (some false))) else (some false))) else (none)) else (gangsawref40_Near.l0 k x0 (wrap64 (x3 + 1)))) else (none)) else (none)
end
def gangsawref40_Near.f (k : Nat) (l0 : List (List (S46))) : Option (Bool) := gangsawref40_Near.l0 k l0 0
theorem gangsawref40_Near.mono_l : ∀ k, (∀ y0 y1, LeO (gangsawref40_Near.l0 k y0 y1) (gangsawref40_Near.l0 (k + 1) y0 y1)) ∧ (∀ y0 y1 y2, LeO (gangsawref40_Near.l1 k y0 y1 y2) (gangsawref40_Near.l1 (k + 1) y0 y1 y2))
  | 0 => ⟨fun _ _ r h => by simp [gangsawref40_Near.l0] at h, fun _ _ _ r h => by simp [gangsawref40_Near.l1] at h⟩
  | k + 1 => by
    obtain ⟨ih0, ih1⟩ := gangsawref40_Near.mono_l k
    refine ⟨?_, ?_⟩
    · intro y0 y1
      unfold gangsawref40_Near.l0
      repeat' first
      | (with_reducible exact ih0 _ _)
      | (with_reducible exact ih1 _ _ _)
      | (with_reducible exact LeO.refl _)
      | (with_reducible exact LeO.none _)
      | (with_reducible refine LeO.ite ?_ ?_)
      | (with_reducible refine LeO.bind ?_ (fun _ => ?_))
      | exact ih0 _ _
      | exact ih1 _ _ _
      | exact LeO.none _
      | refine LeO.ite ?_ ?_
      | refine LeO.bind ?_ (fun _ => ?_)
    · intro y0 y1 y2
      unfold gangsawref40_Near.l1
      repeat' first
      | (with_reducible exact ih0 _ _)
      | (with_reducible exact ih1 _ _ _)
      | (with_reducible exact LeO.refl _)
      | (with_reducible exact LeO.none _)
      | (with_reducible refine LeO.ite ?_ ?_)
      | (with_reducible refine LeO.bind ?_ (fun _ => ?_))
      | exact ih0 _ _
      | exact ih1 _ _ _
      | exact LeO.none _
      | refine LeO.ite ?_ ?_
      | refine LeO.bind ?_ (fun _ => ?_)
theorem gangsawref40_Near.mono : ∀ a0 k, LeO (gangsawref40_Near.f k a0) (gangsawref40_Near.f (k + 1) a0) := by
  intro a0 k
  obtain ⟨ih0, ih1⟩ := gangsawref40_Near.mono_l k
  unfold gangsawref40_Near.f
  repeat' first
      | (with_reducible exact ih0 _ _)
      | (with_reducible exact ih1 _ _ _)
      | (with_reducible exact LeO.refl _)
      | (with_reducible exact LeO.none _)
      | (with_reducible refine LeO.ite ?_ ?_)
      | (with_reducible refine LeO.bind ?_ (fun _ => ?_))
      | exact ih0 _ _
      | exact ih1 _ _ _
      | exact LeO.none _
      | refine LeO.ite ?_ ?_
      | refine LeO.bind ?_ (fun _ => ?_)
set_option maxHeartbeats 8000000 in
set_option maxRecDepth 100000 in
theorem gangsawref40_Near.calls (k : Nat) (A0 : Option Addr) (c0 : Nat) (l0 : List (List (S46))) (r : Bool) (w : World) (hr0 : Kd.C (Kd.slice 46 k46) w A0 l0.length l0) (hc0 : l0.length ≤ c0) (h : gangsawref40_Near.f k l0 = some r) :
    Calls Try.prog 31 #[.slice A0 l0.length c0] w fun e w' => e = .returned (.bool r) ∧ Drawn0 w w' := by
  have HR0 := Aside0.mk hr0
  have HC0 := Aside0.mk hc0
  clear hr0 hc0
  have H : (gangsawref40_Near.l0 k l0 0) = some r := h
  clear h
  have H' := Aside0.mk H
  clear H
  go_enter Try.func31, Try.ntmps31
  go_wp2
  go_loopg [3] k (fun kq v3 w' => ∃ (x3_1 : Int), v3 = .int .i64 x3_1 ∧ Aside0 (gangsawref40_Near.l0 kq l0 x3_1 = some r) ∧ Aside0 (kq ≤ k) ∧ Drawn0 w w')
  case atStart => exact ⟨(0), (by first | rfl | (simp; done) | (simp [*]; done)), H', ⟨Nat.le_refl _⟩, by repeat (first | exact Drawn0.refl _ | apply Drawn0.step)⟩
  case round =>
    clear H'
    obtain ⟨x3_1, rfl, HA, HK1, ⟨m1, rfl⟩⟩ := hrel
    cases gk with
    | zero => exact absurd HA.out (by simp [gangsawref40_Near.l0])
    | succ k1 =>
      have H := HA.out
      clear HA
      simp only [gangsawref40_Near.l0] at H
      by_cases c2 : x3_1 < (l0.length : Int)
      · rw [if_pos c2] at H
        have c2b0 : decide (x3_1 < (l0.length : Int)) = true := decide_eq_true c2
        clear c2
        have H' := Aside0.mk H
        clear H
        go_wp2
        go_loopg [4] k1 (fun kq v4 w' => ∃ (x4_2 : Int), v4 = .int .i64 x4_2 ∧ Aside0 (gangsawref40_Near.l1 kq l0 x3_1 x4_2 = some r) ∧ Aside0 (kq ≤ k1) ∧ Drawn0 w w')
        case atStart => exact ⟨(0), (by first | rfl | (simp; done) | (simp [*]; done)), H', ⟨Nat.le_refl _⟩, by repeat (first | exact Drawn0.refl _ | apply Drawn0.step)⟩
        case round =>
          clear H'
          try clear c2
          try clear c2b0
          try clear p2
          obtain ⟨x4_2, rfl, HA, HK2, ⟨m2, rfl⟩⟩ := hrel
          cases gk with
          | zero => exact absurd HA.out (by simp [gangsawref40_Near.l1])
          | succ k2 =>
            have H := HA.out
            clear HA
            simp only [gangsawref40_Near.l1] at H
            by_cases c3 : 0 ≤ x3_1
            · rw [if_pos c3] at H
              have c3b0 : decide (0 ≤ x3_1) = true := decide_eq_true c3
              clear c3
              by_cases c4 : x3_1 < (l0.length : Int)
              · rw [if_pos c4] at H
                have c4b0 : decide (x3_1 < (l0.length : Int)) = true := decide_eq_true c4
                clear c4
                by_cases c5 : x4_2 < ((rd_L2 l0 x3_1).length : Int)
                · rw [if_pos c5] at H
                  have c5b0 : decide (x4_2 < ((rd_L2 l0 x3_1).length : Int)) = true := decide_eq_true c5
                  clear c5
                  by_cases c6 : 0 ≤ x4_2
                  · rw [if_pos c6] at H
                    have c6b0 : decide (0 ≤ x4_2) = true := decide_eq_true c6
                    clear c6
                    replace H := Option.bind_eq_some_iff.mp H
                    obtain ⟨t514, A70, H⟩ := H
                    replace H : (if t514 = true then ((gangsawref40_near.f ((rd_T46 (rd_L2 l0 x3_1) x4_2).f1)).bind fun t517 => (if t517 = true then (gangsawref40_Near.l1 k2 l0 x3_1 (wrap64 (x4_2 + 1))) else (some false))) else (some false)) = some r := H
                    have A7 := Aside0.mk A70
                    clear A70
                    by_cases c8 : t514 = true
                    · subst c8
                      have H1 : ((gangsawref40_near.f ((rd_T46 (rd_L2 l0 x3_1) x4_2).f1)).bind fun t517 => (if t517 = true then (gangsawref40_Near.l1 k2 l0 x3_1 (wrap64 (x4_2 + 1))) else (some false))) = some r := by rw [if_pos rfl] at H; exact H
                      clear H
                      have H := H1
                      clear H1
                      replace H := Option.bind_eq_some_iff.mp H
                      obtain ⟨t517, A90, H⟩ := H
                      replace H : (if t517 = true then (gangsawref40_Near.l1 k2 l0 x3_1 (wrap64 (x4_2 + 1))) else (some false)) = some r := H
                      have A9 := Aside0.mk A90
                      clear A90
                      by_cases c10 : t517 = true
                      · subst c10
                        have H1 : (gangsawref40_Near.l1 k2 l0 x3_1 (wrap64 (x4_2 + 1))) = some r := by rw [if_pos rfl] at H; exact H
                        clear H
                        have H := H1
                        clear H1
                        have H' := Aside0.mk H
                        clear H
                        have p511 : 0 ≤ (x3_1 : Int) := of_decide_eq_true (by first | (with_reducible assumption) | assumption)
                        have q511 : x3_1 < (l0.length : Int) := of_decide_eq_true (by first | (with_reducible assumption) | assumption)
                        obtain ⟨ad511, A511_0, c511_0, e511, hx511_0, hl511_0, hi511_0⟩ := at_L2 HR0.out x3_1 p511 q511
                        cases e511
                        have HR511_0 := Aside0.mk hi511_0
                        have HC511_0 := Aside0.mk hl511_0
                        clear hi511_0 hl511_0
                        replace p511 := eq_true p511
                        replace q511 := eq_true q511
                        have p512 : 0 ≤ (x3_1 : Int) := of_decide_eq_true (by first | (with_reducible assumption) | assumption)
                        have q512 : x3_1 < (l0.length : Int) := of_decide_eq_true (by first | (with_reducible assumption) | assumption)
                        obtain ⟨ad512, A512_0, c512_0, e512, hx512_0, hl512_0, hi512_0⟩ := at_L2 HR0.out x3_1 p512 q512
                        obtain rfl : ad511 = ad512 := (by injection e512)
                        have HR512_0 := Aside0.mk hi512_0
                        have HC512_0 := Aside0.mk hl512_0
                        clear hi512_0 hl512_0
                        replace p512 := eq_true p512
                        replace q512 := eq_true q512
                        have ea_ := Option.some.inj (hx511_0.symm.trans hx512_0)
                        injection ea_ with ea_ en_ ec_
                        subst ea_
                        subst ec_
                        clear en_
                        have p513 : 0 ≤ (x4_2 : Int) := of_decide_eq_true (by first | (with_reducible assumption) | assumption)
                        have q513 : x4_2 < ((rd_L2 l0 x3_1).length : Int) := of_decide_eq_true (by first | (with_reducible assumption) | assumption)
                        obtain ⟨ad513, e513, hx513_0, hx513_1⟩ := at_T46 HR512_0.out x4_2 p513 q513
                        cases e513
                        replace p513 := eq_true p513
                        replace q513 := eq_true q513
                        go_wp2_with (first | ((with_reducible refine gate_callee (f := 44) rfl ?_); refine goesL_ (some 28) rfl rfl Try.func44 (by kernel_rfl) rfl #[.int .i64 ((rd_T46 (rd_L2 l0 x3_1) x4_2).f0)] rfl (by (try simp only [List.map_toArray, List.map_cons, List.map_nil]); first | done | rfl | (simp only [List.length_drop, List.length_take]; rfl)) ?_; (with_reducible refine (gangsawref40_near.calls ((rd_T46 (rd_L2 l0 x3_1) x4_2).f0) true _ A7.out).mono ?_); rintro e w' ⟨rfl, ⟨nd, rfl⟩⟩; refine ⟨_, rfl, ?_⟩; have p515 : 0 ≤ (x3_1 : Int) := of_decide_eq_true (by first | (with_reducible assumption) | assumption); have q515 : x3_1 < (l0.length : Int) := of_decide_eq_true (by first | (with_reducible assumption) | assumption); obtain ⟨ad515, A515_0, c515_0, e515, hx515_0, hl515_0, hi515_0⟩ := at_L2 HR0.out x3_1 p515 q515; obtain rfl : ad511 = ad515 := (by injection e515); have HR515_0 := Aside0.mk hi515_0; have HC515_0 := Aside0.mk hl515_0; clear hi515_0 hl515_0; replace p515 := eq_true p515; replace q515 := eq_true q515; have ea_ := Option.some.inj (hx511_0.symm.trans hx515_0); injection ea_ with ea_ en_ ec_; subst ea_; subst ec_; clear en_; have p516 : 0 ≤ (x4_2 : Int) := of_decide_eq_true (by first | (with_reducible assumption) | assumption); have q516 : x4_2 < ((rd_L2 l0 x3_1).length : Int) := of_decide_eq_true (by first | (with_reducible assumption) | assumption); obtain ⟨ad516, e516, hx516_0, hx516_1⟩ := at_T46 HR515_0.out x4_2 p516 q516; obtain rfl : ad513 = ad516 := (by injection e516); replace p516 := eq_true p516; replace q516 := eq_true q516) | (go_at_call 44; (with_reducible refine (gangsawref40_near.calls ((rd_T46 (rd_L2 l0 x3_1) x4_2).f1) true _ A9.out).mono ?_); rintro e w' ⟨rfl, ⟨nd, rfl⟩⟩))
                        go_roundg k2
                        case measure => have := HK1.out; have := HK2.out; omega
                        case rel => exact ⟨(wrap64 (x4_2 + 1)), (by first | rfl | (simp; done) | (simp [*]; done)), H', ⟨by have := HK1.out; have := HK2.out; omega⟩, by repeat (first | exact Drawn0.refl _ | apply Drawn0.step)⟩
                      · replace c10 := Bool.eq_false_iff.mpr c10
                        subst c10
                        have H1 : (some false) = some r := by rw [if_neg (show ¬ (false = true) by decide)] at H; exact H
                        clear H
                        have H := H1
                        clear H1
                        obtain rfl := Option.some.inj H
                        have p511 : 0 ≤ (x3_1 : Int) := of_decide_eq_true (by first | (with_reducible assumption) | assumption)
                        have q511 : x3_1 < (l0.length : Int) := of_decide_eq_true (by first | (with_reducible assumption) | assumption)
                        obtain ⟨ad511, A511_0, c511_0, e511, hx511_0, hl511_0, hi511_0⟩ := at_L2 HR0.out x3_1 p511 q511
                        cases e511
                        have HR511_0 := Aside0.mk hi511_0
                        have HC511_0 := Aside0.mk hl511_0
                        clear hi511_0 hl511_0
                        replace p511 := eq_true p511
                        replace q511 := eq_true q511
                        have p512 : 0 ≤ (x3_1 : Int) := of_decide_eq_true (by first | (with_reducible assumption) | assumption)
                        have q512 : x3_1 < (l0.length : Int) := of_decide_eq_true (by first | (with_reducible assumption) | assumption)
                        obtain ⟨ad512, A512_0, c512_0, e512, hx512_0, hl512_0, hi512_0⟩ := at_L2 HR0.out x3_1 p512 q512
                        obtain rfl : ad511 = ad512 := (by injection e512)
                        have HR512_0 := Aside0.mk hi512_0
                        have HC512_0 := Aside0.mk hl512_0
                        clear hi512_0 hl512_0
                        replace p512 := eq_true p512
                        replace q512 := eq_true q512
                        have ea_ := Option.some.inj (hx511_0.symm.trans hx512_0)
                        injection ea_ with ea_ en_ ec_
                        subst ea_
                        subst ec_
                        clear en_
                        have p513 : 0 ≤ (x4_2 : Int) := of_decide_eq_true (by first | (with_reducible assumption) | assumption)
                        have q513 : x4_2 < ((rd_L2 l0 x3_1).length : Int) := of_decide_eq_true (by first | (with_reducible assumption) | assumption)
                        obtain ⟨ad513, e513, hx513_0, hx513_1⟩ := at_T46 HR512_0.out x4_2 p513 q513
                        cases e513
                        replace p513 := eq_true p513
                        replace q513 := eq_true q513
                        go_wp2_with (first | ((with_reducible refine gate_callee (f := 44) rfl ?_); refine goesL_ (some 28) rfl rfl Try.func44 (by kernel_rfl) rfl #[.int .i64 ((rd_T46 (rd_L2 l0 x3_1) x4_2).f0)] rfl (by (try simp only [List.map_toArray, List.map_cons, List.map_nil]); first | done | rfl | (simp only [List.length_drop, List.length_take]; rfl)) ?_; (with_reducible refine (gangsawref40_near.calls ((rd_T46 (rd_L2 l0 x3_1) x4_2).f0) true _ A7.out).mono ?_); rintro e w' ⟨rfl, ⟨nd, rfl⟩⟩; refine ⟨_, rfl, ?_⟩; have p515 : 0 ≤ (x3_1 : Int) := of_decide_eq_true (by first | (with_reducible assumption) | assumption); have q515 : x3_1 < (l0.length : Int) := of_decide_eq_true (by first | (with_reducible assumption) | assumption); obtain ⟨ad515, A515_0, c515_0, e515, hx515_0, hl515_0, hi515_0⟩ := at_L2 HR0.out x3_1 p515 q515; obtain rfl : ad511 = ad515 := (by injection e515); have HR515_0 := Aside0.mk hi515_0; have HC515_0 := Aside0.mk hl515_0; clear hi515_0 hl515_0; replace p515 := eq_true p515; replace q515 := eq_true q515; have ea_ := Option.some.inj (hx511_0.symm.trans hx515_0); injection ea_ with ea_ en_ ec_; subst ea_; subst ec_; clear en_; have p516 : 0 ≤ (x4_2 : Int) := of_decide_eq_true (by first | (with_reducible assumption) | assumption); have q516 : x4_2 < ((rd_L2 l0 x3_1).length : Int) := of_decide_eq_true (by first | (with_reducible assumption) | assumption); obtain ⟨ad516, e516, hx516_0, hx516_1⟩ := at_T46 HR515_0.out x4_2 p516 q516; obtain rfl : ad513 = ad516 := (by injection e516); replace p516 := eq_true p516; replace q516 := eq_true q516) | (go_at_call 44; (with_reducible refine (gangsawref40_near.calls ((rd_T46 (rd_L2 l0 x3_1) x4_2).f1) false _ A9.out).mono ?_); rintro e w' ⟨rfl, ⟨nd, rfl⟩⟩))
                        go_ret
                        exact ⟨by first | rfl | (simp; done) | (simp [*]; done), by repeat (first | exact Drawn0.refl _ | apply Drawn0.step)⟩
                    · replace c8 := Bool.eq_false_iff.mpr c8
                      subst c8
                      have H1 : (some false) = some r := by rw [if_neg (show ¬ (false = true) by decide)] at H; exact H
                      clear H
                      have H := H1
                      clear H1
                      obtain rfl := Option.some.inj H
                      have p511 : 0 ≤ (x3_1 : Int) := of_decide_eq_true (by first | (with_reducible assumption) | assumption)
                      have q511 : x3_1 < (l0.length : Int) := of_decide_eq_true (by first | (with_reducible assumption) | assumption)
                      obtain ⟨ad511, A511_0, c511_0, e511, hx511_0, hl511_0, hi511_0⟩ := at_L2 HR0.out x3_1 p511 q511
                      cases e511
                      have HR511_0 := Aside0.mk hi511_0
                      have HC511_0 := Aside0.mk hl511_0
                      clear hi511_0 hl511_0
                      replace p511 := eq_true p511
                      replace q511 := eq_true q511
                      have p512 : 0 ≤ (x3_1 : Int) := of_decide_eq_true (by first | (with_reducible assumption) | assumption)
                      have q512 : x3_1 < (l0.length : Int) := of_decide_eq_true (by first | (with_reducible assumption) | assumption)
                      obtain ⟨ad512, A512_0, c512_0, e512, hx512_0, hl512_0, hi512_0⟩ := at_L2 HR0.out x3_1 p512 q512
                      obtain rfl : ad511 = ad512 := (by injection e512)
                      have HR512_0 := Aside0.mk hi512_0
                      have HC512_0 := Aside0.mk hl512_0
                      clear hi512_0 hl512_0
                      replace p512 := eq_true p512
                      replace q512 := eq_true q512
                      have ea_ := Option.some.inj (hx511_0.symm.trans hx512_0)
                      injection ea_ with ea_ en_ ec_
                      subst ea_
                      subst ec_
                      clear en_
                      have p513 : 0 ≤ (x4_2 : Int) := of_decide_eq_true (by first | (with_reducible assumption) | assumption)
                      have q513 : x4_2 < ((rd_L2 l0 x3_1).length : Int) := of_decide_eq_true (by first | (with_reducible assumption) | assumption)
                      obtain ⟨ad513, e513, hx513_0, hx513_1⟩ := at_T46 HR512_0.out x4_2 p513 q513
                      cases e513
                      replace p513 := eq_true p513
                      replace q513 := eq_true q513
                      go_wp2_with (first | ((with_reducible refine gate_callee (f := 44) rfl ?_); refine goesL_ (some 28) rfl rfl Try.func44 (by kernel_rfl) rfl #[.int .i64 ((rd_T46 (rd_L2 l0 x3_1) x4_2).f0)] rfl (by (try simp only [List.map_toArray, List.map_cons, List.map_nil]); first | done | rfl | (simp only [List.length_drop, List.length_take]; rfl)) ?_; (with_reducible refine (gangsawref40_near.calls ((rd_T46 (rd_L2 l0 x3_1) x4_2).f0) false _ A7.out).mono ?_); rintro e w' ⟨rfl, ⟨nd, rfl⟩⟩; refine ⟨_, rfl, ?_⟩))
                      go_ret
                      exact ⟨by first | rfl | (simp; done) | (simp [*]; done), by repeat (first | exact Drawn0.refl _ | apply Drawn0.step)⟩
                  · rw [if_neg c6] at H
                    exact absurd H (by simp)
                · rw [if_neg c5] at H
                  have c5b0 : decide (x4_2 < ((rd_L2 l0 x3_1).length : Int)) = false := decide_eq_false c5
                  clear c5
                  have H' := Aside0.mk H
                  clear H
                  have p511 : 0 ≤ (x3_1 : Int) := of_decide_eq_true (by first | (with_reducible assumption) | assumption)
                  have q511 : x3_1 < (l0.length : Int) := of_decide_eq_true (by first | (with_reducible assumption) | assumption)
                  obtain ⟨ad511, A511_0, c511_0, e511, hx511_0, hl511_0, hi511_0⟩ := at_L2 HR0.out x3_1 p511 q511
                  cases e511
                  have HR511_0 := Aside0.mk hi511_0
                  have HC511_0 := Aside0.mk hl511_0
                  clear hi511_0 hl511_0
                  replace p511 := eq_true p511
                  replace q511 := eq_true q511
                  go_wp2
                  go_roundg k2
                  case measure => have := HK1.out; have := HK2.out; omega
                  case rel => exact ⟨(wrap64 (x3_1 + 1)), (by first | rfl | (simp; done) | (simp [*]; done)), H', ⟨by have := HK1.out; have := HK2.out; omega⟩, by repeat (first | exact Drawn0.refl _ | apply Drawn0.step)⟩
              · rw [if_neg c4] at H
                exact absurd H (by simp)
            · rw [if_neg c3] at H
              exact absurd H (by simp)
      · rw [if_neg c2] at H
        have c2b0 : decide (x3_1 < (l0.length : Int)) = false := decide_eq_false c2
        clear c2
        obtain rfl := Option.some.inj H
        go_wp2
        go_ret
        exact ⟨by first | rfl | (simp; done) | (simp [*]; done), by repeat (first | exact Drawn0.refl _ | apply Drawn0.step)⟩

end Go.Proofs.Ytjlljjnkjhdljaa.XA
