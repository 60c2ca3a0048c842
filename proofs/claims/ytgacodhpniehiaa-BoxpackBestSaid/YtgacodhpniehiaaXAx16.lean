import Derived.Test.YtgacodhpniehiaaXAx1
import Derived.Test.YtgacodhpniehiaaXAx15
import Derived.Test.YtgacodhpniehiaaXAx13
namespace Go.Proofs.Ytgacodhpniehiaa.XA
open Flat Go.RowKit Opens YtgacodhpniehiaaW.PrintWords YtgacodhpniehiaaW.PrintLast YtgacodhpniehiaaW.PrintMore
attribute [local go_sem] max2_int min2_int max_two min_two max_three min_three max_four min_four cell_some cell_same
set_option linter.unusedVariables false
set_option linter.unusedSimpArgs false

attribute [local go_sem high] eqA61
def lw_awake.f (k : Nat)  : Option (Bool) := (lw_vec.f 5 2 1).bind fun bt195 => ((lw_vec.f 2 2 1).bind fun bt198 => ((lw_vec.f 1 1 1).bind fun bt201 => ((some (([(⟨(⟨#[97]⟩ : ByteArray), (⟨bt198.1, bt198.2.1, bt198.2.2⟩ : S23), 5, 0, 0⟩ : S56), (⟨(⟨#[98]⟩ : ByteArray), (⟨bt201.1, bt201.2.1, bt201.2.2⟩ : S23), 1, 0, 0⟩ : S56)] : List (S56)) : List (S56))).bind fun y204 => ((boxpack_Best.f k bt195.1 bt195.2.1 bt195.2.2 1 y204).bind fun bt208 => ((boxpack_Value.f k bt195.1 bt195.2.1 bt195.2.2 1 y204 bt208.2.1).bind fun bt213 => ((lw_vec.f 2 2 1).bind fun bt216 => ((boxpack_Table.f k bt216.1 bt216.2.1 bt216.2.2 1 y204).bind fun bt219 => ((boxpack_CheckTable.f k bt216.1 bt216.2.1 bt216.2.2 1 y204 (([1, 1, 1, 4] : List Int))).bind fun bt226 => ((boxpack_Bound.f k bt216.1 bt216.2.1 bt216.2.2 1 y204 (([1, 1, 1, 9] : List Int))).bind fun bt231 => ((boxpack_Table.f k bt195.1 bt195.2.1 bt195.2.2 1 y204).bind fun bt233 => (if bt208.2.2 = 0 then (if bt208.1 = 10 then (if (bt208.2.1.length : Int) = 3 then (if 0 < (bt208.2.1.length : Int) then (if (((rd_T61 bt208.2.1 0).f0) == 3 && ((((rd_T61 bt208.2.1 0).f1).toList) == ([] : List UInt8) && (((rd_T61 bt208.2.1 0).f2) == 0 && (((rd_T61 bt208.2.1 0).f3) == 2 && (((rd_T61 bt208.2.1 0).f4) == 1 && (((rd_T61 bt208.2.1 0).f5) == 1 && (((rd_T61 bt208.2.1 0).f6) == 2))))))) = true then (if (bt208.2.1.length : Int) > 2 then (if bt213.2 = 0 then (if bt213.1 = 10 then (if bt219.2 = 0 then ((rf_SameTable.f k bt219.1 (([1, 1, 1, 5] : List Int))).bind fun t241 => (if t241 = true then (if bt226.2 = 10 then (if bt226.1 = 3 then (if bt231.2 = 0 then (if bt231.1 = 9 then (if bt233.2 = 0 then ((boxpack_Proves.f k bt195.1 bt195.2.1 bt195.2.2 1 y204 bt233.1 bt208.2.1).bind fun t242 => (if t242 = true then ((boxpack_Check.f k bt195.1 bt195.2.1 bt195.2.2 1 y204).bind fun t243 => (if t243 = 0 then ((boxpack_Check.f k 0 0 0 0 ([] : List (S56))).bind fun t244 => (some (t244 == 6))) else (none))) else (none))) else (none)) else (none)) else (none)) else (none)) else (none)) else (none))) else (none)) else (none)) else (none)) else (none)) else (none)) else (none)) else (none)) else (none)) else (none))))))))))))
theorem lw_awake.mono : ∀ k, LeO (lw_awake.f k ) (lw_awake.f (k + 1) ) := by
 intro  k
 unfold lw_awake.f
 repeat' first
   | (with_reducible exact boxpack_Best.mono _ _ _ _ _ _)
   | (with_reducible exact boxpack_Bound.mono _ _ _ _ _ _ _)
   | (with_reducible exact boxpack_Check.mono _ _ _ _ _ _)
   | (with_reducible exact boxpack_CheckTable.mono _ _ _ _ _ _ _)
   | (with_reducible exact boxpack_Proves.mono _ _ _ _ _ _ _ _)
   | (with_reducible exact boxpack_Table.mono _ _ _ _ _ _)
   | (with_reducible exact boxpack_Value.mono _ _ _ _ _ _ _)
   | (with_reducible exact rf_SameTable.mono _ _ _)
   | (with_reducible exact LeO.refl _)
   | (with_reducible refine LeO.ite ?_ ?_)
   | (with_reducible refine LeO.bind ?_ (fun _ => ?_))
set_option maxHeartbeats 8000000 in
set_option maxRecDepth 100000 in
theorem lw_awake.calls (k : Nat)  (r : Bool) (w : World) (h : lw_awake.f k  = some r) :
  Calls Try.prog 10 #[] w fun e w' => e = .returned (.bool r) ∧ Below w.heap.size w w' := by
 have hu56 := Try.underlying56
 have hu33 := Try.underlying33
 have hu23 := Try.underlying23
 have hu61 := Try.underlying61
 have HB := ak (Below.refl w.heap.size w)
 have H : ((lw_vec.f 5 2 1).bind fun bt195 => ((lw_vec.f 2 2 1).bind fun bt198 => ((lw_vec.f 1 1 1).bind fun bt201 => ((some (([(⟨(⟨#[97]⟩ : ByteArray), (⟨bt198.1, bt198.2.1, bt198.2.2⟩ : S23), 5, 0, 0⟩ : S56), (⟨(⟨#[98]⟩ : ByteArray), (⟨bt201.1, bt201.2.1, bt201.2.2⟩ : S23), 1, 0, 0⟩ : S56)] : List (S56)) : List (S56))).bind fun y204 => ((boxpack_Best.f k bt195.1 bt195.2.1 bt195.2.2 1 y204).bind fun bt208 => ((boxpack_Value.f k bt195.1 bt195.2.1 bt195.2.2 1 y204 bt208.2.1).bind fun bt213 => ((lw_vec.f 2 2 1).bind fun bt216 => ((boxpack_Table.f k bt216.1 bt216.2.1 bt216.2.2 1 y204).bind fun bt219 => ((boxpack_CheckTable.f k bt216.1 bt216.2.1 bt216.2.2 1 y204 (([1, 1, 1, 4] : List Int))).bind fun bt226 => ((boxpack_Bound.f k bt216.1 bt216.2.1 bt216.2.2 1 y204 (([1, 1, 1, 9] : List Int))).bind fun bt231 => ((boxpack_Table.f k bt195.1 bt195.2.1 bt195.2.2 1 y204).bind fun bt233 => (if bt208.2.2 = 0 then (if bt208.1 = 10 then (if (bt208.2.1.length : Int) = 3 then (if 0 < (bt208.2.1.length : Int) then (if (((rd_T61 bt208.2.1 0).f0) == 3 && ((((rd_T61 bt208.2.1 0).f1).toList) == ([] : List UInt8) && (((rd_T61 bt208.2.1 0).f2) == 0 && (((rd_T61 bt208.2.1 0).f3) == 2 && (((rd_T61 bt208.2.1 0).f4) == 1 && (((rd_T61 bt208.2.1 0).f5) == 1 && (((rd_T61 bt208.2.1 0).f6) == 2))))))) = true then (if (bt208.2.1.length : Int) > 2 then (if bt213.2 = 0 then (if bt213.1 = 10 then (if bt219.2 = 0 then ((rf_SameTable.f k bt219.1 (([1, 1, 1, 5] : List Int))).bind fun t241 => (if t241 = true then (if bt226.2 = 10 then (if bt226.1 = 3 then (if bt231.2 = 0 then (if bt231.1 = 9 then (if bt233.2 = 0 then ((boxpack_Proves.f k bt195.1 bt195.2.1 bt195.2.2 1 y204 bt233.1 bt208.2.1).bind fun t242 => (if t242 = true then ((boxpack_Check.f k bt195.1 bt195.2.1 bt195.2.2 1 y204).bind fun t243 => (if t243 = 0 then ((boxpack_Check.f k 0 0 0 0 ([] : List (S56))).bind fun t244 => (some (t244 == 6))) else (none))) else (none))) else (none)) else (none)) else (none)) else (none)) else (none)) else (none))) else (none)) else (none)) else (none)) else (none)) else (none)) else (none)) else (none)) else (none)) else (none))))))))))))) = some r := h
 clear h
 replace H := Option.bind_eq_some_iff.mp H
 obtain ⟨⟨t195, t196, t197⟩, A10, H⟩ := H
 (try dsimp only at H)
 have A1 := ak A10
 clear A10
 replace H := Option.bind_eq_some_iff.mp H
 obtain ⟨⟨t198, t199, t200⟩, A20, H⟩ := H
 (try dsimp only at H)
 have A2 := ak A20
 clear A20
 replace H := Option.bind_eq_some_iff.mp H
 obtain ⟨⟨t201, t202, t203⟩, A30, H⟩ := H
 (try dsimp only at H)
 have A3 := ak A30
 clear A30
 obtain ⟨y204, hy204⟩ : ∃ y_ : List (S56), y_ = (([(⟨(⟨#[97]⟩ : ByteArray), (⟨t198, t199, t200⟩ : S23), 5, 0, 0⟩ : S56), (⟨(⟨#[98]⟩ : ByteArray), (⟨t201, t202, t203⟩ : S23), 1, 0, 0⟩ : S56)] : List (S56))) := ⟨_, rfl⟩
 replace H : ((boxpack_Best.f k t195 t196 t197 1 y204).bind fun bt208 => ((boxpack_Value.f k t195 t196 t197 1 y204 bt208.2.1).bind fun bt213 => ((lw_vec.f 2 2 1).bind fun bt216 => ((boxpack_Table.f k bt216.1 bt216.2.1 bt216.2.2 1 y204).bind fun bt219 => ((boxpack_CheckTable.f k bt216.1 bt216.2.1 bt216.2.2 1 y204 (([1, 1, 1, 4] : List Int))).bind fun bt226 => ((boxpack_Bound.f k bt216.1 bt216.2.1 bt216.2.2 1 y204 (([1, 1, 1, 9] : List Int))).bind fun bt231 => ((boxpack_Table.f k t195 t196 t197 1 y204).bind fun bt233 => (if bt208.2.2 = 0 then (if bt208.1 = 10 then (if (bt208.2.1.length : Int) = 3 then (if 0 < (bt208.2.1.length : Int) then (if (((rd_T61 bt208.2.1 0).f0) == 3 && ((((rd_T61 bt208.2.1 0).f1).toList) == ([] : List UInt8) && (((rd_T61 bt208.2.1 0).f2) == 0 && (((rd_T61 bt208.2.1 0).f3) == 2 && (((rd_T61 bt208.2.1 0).f4) == 1 && (((rd_T61 bt208.2.1 0).f5) == 1 && (((rd_T61 bt208.2.1 0).f6) == 2))))))) = true then (if (bt208.2.1.length : Int) > 2 then (if bt213.2 = 0 then (if bt213.1 = 10 then (if bt219.2 = 0 then ((rf_SameTable.f k bt219.1 (([1, 1, 1, 5] : List Int))).bind fun t241 => (if t241 = true then (if bt226.2 = 10 then (if bt226.1 = 3 then (if bt231.2 = 0 then (if bt231.1 = 9 then (if bt233.2 = 0 then ((boxpack_Proves.f k t195 t196 t197 1 y204 bt233.1 bt208.2.1).bind fun t242 => (if t242 = true then ((boxpack_Check.f k t195 t196 t197 1 y204).bind fun t243 => (if t243 = 0 then ((boxpack_Check.f k 0 0 0 0 ([] : List (S56))).bind fun t244 => (some (t244 == 6))) else (none))) else (none))) else (none)) else (none)) else (none)) else (none)) else (none)) else (none))) else (none)) else (none)) else (none)) else (none)) else (none)) else (none)) else (none)) else (none)) else (none))))))))) = some r := by (have H2_ := (Option.bind_some _ _).symm.trans H; rw [hy204]; with_reducible exact H2_)
 have Ny204 := ak hy204
 clear hy204
 replace H := Option.bind_eq_some_iff.mp H
 obtain ⟨⟨t208, t209, t212⟩, A40, H⟩ := H
 (try dsimp only at H)
 have A4 := ak A40
 clear A40
 replace H := Option.bind_eq_some_iff.mp H
 obtain ⟨⟨t213, t214⟩, A50, H⟩ := H
 (try dsimp only at H)
 have A5 := ak A50
 clear A50
 replace H := Option.bind_eq_some_iff.mp H
 obtain ⟨⟨t216, t217, t218⟩, A60, H⟩ := H
 (try dsimp only at H)
 have A6 := ak A60
 clear A60
 replace H := Option.bind_eq_some_iff.mp H
 obtain ⟨⟨t219, t222⟩, A70, H⟩ := H
 (try dsimp only at H)
 have A7 := ak A70
 clear A70
 obtain ⟨y223, hy223⟩ : ∃ y_ : List Int, y_ = (([1, 1, 1, 4] : List Int)) := ⟨_, rfl⟩
 replace H : ((boxpack_CheckTable.f k t216 t217 t218 1 y204 y223).bind fun bt226 => ((boxpack_Bound.f k t216 t217 t218 1 y204 (([1, 1, 1, 9] : List Int))).bind fun bt231 => ((boxpack_Table.f k t195 t196 t197 1 y204).bind fun bt233 => (if t212 = 0 then (if t208 = 10 then (if (t209.length : Int) = 3 then (if 0 < (t209.length : Int) then (if (((rd_T61 t209 0).f0) == 3 && ((((rd_T61 t209 0).f1).toList) == ([] : List UInt8) && (((rd_T61 t209 0).f2) == 0 && (((rd_T61 t209 0).f3) == 2 && (((rd_T61 t209 0).f4) == 1 && (((rd_T61 t209 0).f5) == 1 && (((rd_T61 t209 0).f6) == 2))))))) = true then (if (t209.length : Int) > 2 then (if t214 = 0 then (if t213 = 10 then (if t222 = 0 then ((rf_SameTable.f k t219 (([1, 1, 1, 5] : List Int))).bind fun t241 => (if t241 = true then (if bt226.2 = 10 then (if bt226.1 = 3 then (if bt231.2 = 0 then (if bt231.1 = 9 then (if bt233.2 = 0 then ((boxpack_Proves.f k t195 t196 t197 1 y204 bt233.1 t209).bind fun t242 => (if t242 = true then ((boxpack_Check.f k t195 t196 t197 1 y204).bind fun t243 => (if t243 = 0 then ((boxpack_Check.f k 0 0 0 0 ([] : List (S56))).bind fun t244 => (some (t244 == 6))) else (none))) else (none))) else (none)) else (none)) else (none)) else (none)) else (none)) else (none))) else (none)) else (none)) else (none)) else (none)) else (none)) else (none)) else (none)) else (none)) else (none))))) = some r := by (rw [hy223]; with_reducible exact H)
 have Ny223 := ak hy223
 clear hy223
 replace H := Option.bind_eq_some_iff.mp H
 obtain ⟨⟨t226, t227⟩, A80, H⟩ := H
 (try dsimp only at H)
 have A8 := ak A80
 clear A80
 obtain ⟨y228, hy228⟩ : ∃ y_ : List Int, y_ = (([1, 1, 1, 9] : List Int)) := ⟨_, rfl⟩
 replace H : ((boxpack_Bound.f k t216 t217 t218 1 y204 y228).bind fun bt231 => ((boxpack_Table.f k t195 t196 t197 1 y204).bind fun bt233 => (if t212 = 0 then (if t208 = 10 then (if (t209.length : Int) = 3 then (if 0 < (t209.length : Int) then (if (((rd_T61 t209 0).f0) == 3 && ((((rd_T61 t209 0).f1).toList) == ([] : List UInt8) && (((rd_T61 t209 0).f2) == 0 && (((rd_T61 t209 0).f3) == 2 && (((rd_T61 t209 0).f4) == 1 && (((rd_T61 t209 0).f5) == 1 && (((rd_T61 t209 0).f6) == 2))))))) = true then (if (t209.length : Int) > 2 then (if t214 = 0 then (if t213 = 10 then (if t222 = 0 then ((rf_SameTable.f k t219 (([1, 1, 1, 5] : List Int))).bind fun t241 => (if t241 = true then (if t227 = 10 then (if t226 = 3 then (if bt231.2 = 0 then (if bt231.1 = 9 then (if bt233.2 = 0 then ((boxpack_Proves.f k t195 t196 t197 1 y204 bt233.1 t209).bind fun t242 => (if t242 = true then ((boxpack_Check.f k t195 t196 t197 1 y204).bind fun t243 => (if t243 = 0 then ((boxpack_Check.f k 0 0 0 0 ([] : List (S56))).bind fun t244 => (some (t244 == 6))) else (none))) else (none))) else (none)) else (none)) else (none)) else (none)) else (none)) else (none))) else (none)) else (none)) else (none)) else (none)) else (none)) else (none)) else (none)) else (none)) else (none)))) = some r := by (rw [hy228]; with_reducible exact H)
 have Ny228 := ak hy228
 clear hy228
 replace H := Option.bind_eq_some_iff.mp H
 obtain ⟨⟨t231, t232⟩, A90, H⟩ := H
 (try dsimp only at H)
 have A9 := ak A90
 clear A90
 replace H := Option.bind_eq_some_iff.mp H
 obtain ⟨⟨t233, t236⟩, A100, H⟩ := H
 (try dsimp only at H)
 have A10 := ak A100
 clear A100
 by_cases c11 : t212 = 0
 ·rw [if_pos c11] at H
  have c11b0 := beq_iff_eq.mpr c11; have c11b1 := bne_eq_false_iff_eq.mpr c11; clear c11; (by_cases c12 : t208 = 10)
  ·rw [if_pos c12] at H
   have c12b0 := beq_iff_eq.mpr c12; have c12b1 := bne_eq_false_iff_eq.mpr c12; clear c12; (by_cases c13 : (t209.length : Int) = 3)
   ·rw [if_pos c13] at H
    have c13b0 := beq_iff_eq.mpr c13; have c13b1 := bne_eq_false_iff_eq.mpr c13; clear c13; (by_cases c14 : 0 < (t209.length : Int))
    ·rw [if_pos c14] at H
     have c14b0 := decide_eq_true c14; (have c14b1 : decide (0 < t209.length) = true := decide_eq_true (by omega)); clear c14; (by_cases c15 : (((rd_T61 t209 0).f0) == 3 && ((((rd_T61 t209 0).f1).toList) == ([] : List UInt8) && (((rd_T61 t209 0).f2) == 0 && (((rd_T61 t209 0).f3) == 2 && (((rd_T61 t209 0).f4) == 1 && (((rd_T61 t209 0).f5) == 1 && (((rd_T61 t209 0).f6) == 2))))))) = true)
     ·rw [if_pos c15] at H
      have c15b0 : (((rd_T61 t209 0).f0) == 3 && ((((rd_T61 t209 0).f1).toList) == ([] : List UInt8) && (((rd_T61 t209 0).f2) == 0 && (((rd_T61 t209 0).f3) == 2 && (((rd_T61 t209 0).f4) == 1 && (((rd_T61 t209 0).f5) == 1 && (((rd_T61 t209 0).f6) == 2))))))) = true := c15; ((try (have c15b1 : decide (((rd_T61 t209 0).f0) = 3 && ((((rd_T61 t209 0).f1).toList) == ([] : List UInt8) && (((rd_T61 t209 0).f2) == 0 && (((rd_T61 t209 0).f3) == 2 && (((rd_T61 t209 0).f4) == 1 && (((rd_T61 t209 0).f5) == 1 && (((rd_T61 t209 0).f6) == 2))))))) = true := by simpa using c15))); ((try (have c15b2 : (((rd_T61 t209 0).f0) == 3 && ((((rd_T61 t209 0).f1).toList) == ([] : List UInt8) && (((rd_T61 t209 0).f2) == 0 && (((rd_T61 t209 0).f3) == 2 && (((rd_T61 t209 0).f4) == 1 && (((rd_T61 t209 0).f5) == 1 && (((rd_T61 t209 0).f6) == 2))))))) = true := by simpa using c15))); (have c15b3 : ((rd_T61 t209 0).f0 == 3 && ((rd_T61 t209 0).f1.toList.isEmpty && ((rd_T61 t209 0).f2 == 0 && ((rd_T61 t209 0).f3 == 2 && ((rd_T61 t209 0).f4 == 1 && ((rd_T61 t209 0).f5 == 1 && (rd_T61 t209 0).f6 == 2)))))) = true := by (rw [show ((rd_T61 t209 0).f1.toList.isEmpty) = ((rd_T61 t209 0).f1.toList == ([] : List UInt8)) from by cases (rd_T61 t209 0).f1.toList <;> rfl]; exact c15b0)); clear c15; (by_cases c16 : (t209.length : Int) > 2)
      ·rw [if_pos c16] at H
       have c16b0 := decide_eq_true c16; (have c16b1 : decide (2 < t209.length) = true := decide_eq_true (by omega)); clear c16; (by_cases c17 : t214 = 0)
       ·rw [if_pos c17] at H
        have c17b0 := beq_iff_eq.mpr c17; have c17b1 := bne_eq_false_iff_eq.mpr c17; clear c17; (by_cases c18 : t213 = 10)
        ·rw [if_pos c18] at H
         have c18b0 := beq_iff_eq.mpr c18; have c18b1 := bne_eq_false_iff_eq.mpr c18; clear c18; (by_cases c19 : t222 = 0)
         ·rw [if_pos c19] at H
          have c19b0 := beq_iff_eq.mpr c19; have c19b1 := bne_eq_false_iff_eq.mpr c19; clear c19; obtain ⟨y238, hy238⟩ : ∃ y_ : List Int, y_ = (([1, 1, 1, 5] : List Int)) := ⟨_, rfl⟩; (replace H : ((rf_SameTable.f k t219 y238).bind fun t241 => (if t241 = true then (if t227 = 10 then (if t226 = 3 then (if t232 = 0 then (if t231 = 9 then (if t236 = 0 then ((boxpack_Proves.f k t195 t196 t197 1 y204 t233 t209).bind fun t242 => (if t242 = true then ((boxpack_Check.f k t195 t196 t197 1 y204).bind fun t243 => (if t243 = 0 then ((boxpack_Check.f k 0 0 0 0 ([] : List (S56))).bind fun t244 => (some (t244 == 6))) else (none))) else (none))) else (none)) else (none)) else (none)) else (none)) else (none)) else (none))) = some r := by (rw [hy238]; with_reducible exact H)); have Ny238 := ak hy238; clear hy238; obtain ⟨t241, A200, H⟩ := obs_ H; (try dsimp only at H); have A20 := ak A200; clear A200; (by_cases c21 : t241 = true)
          ·subst c21
           (replace H : (if t227 = 10 then (if t226 = 3 then (if t232 = 0 then (if t231 = 9 then (if t236 = 0 then ((boxpack_Proves.f k t195 t196 t197 1 y204 t233 t209).bind fun t242 => (if t242 = true then ((boxpack_Check.f k t195 t196 t197 1 y204).bind fun t243 => (if t243 = 0 then ((boxpack_Check.f k 0 0 0 0 ([] : List (S56))).bind fun t244 => (some (t244 == 6))) else (none))) else (none))) else (none)) else (none)) else (none)) else (none)) else (none)) = some r := by rw [if_pos rfl] at H; exact H); (by_cases c22 : t227 = 10)
           ·rw [if_pos c22] at H
            have c22b0 := beq_iff_eq.mpr c22; have c22b1 := bne_eq_false_iff_eq.mpr c22; clear c22; (by_cases c23 : t226 = 3)
            ·rw [if_pos c23] at H
             have c23b0 := beq_iff_eq.mpr c23; have c23b1 := bne_eq_false_iff_eq.mpr c23; clear c23; (by_cases c24 : t232 = 0)
             ·rw [if_pos c24] at H
              have c24b0 := beq_iff_eq.mpr c24; have c24b1 := bne_eq_false_iff_eq.mpr c24; clear c24; (by_cases c25 : t231 = 9)
              ·rw [if_pos c25] at H
               have c25b0 := beq_iff_eq.mpr c25; have c25b1 := bne_eq_false_iff_eq.mpr c25; clear c25; (by_cases c26 : t236 = 0)
               ·rw [if_pos c26] at H
                have c26b0 := beq_iff_eq.mpr c26; have c26b1 := bne_eq_false_iff_eq.mpr c26; clear c26; obtain ⟨t242, A270, H⟩ := obs_ H; (try dsimp only at H); have A27 := ak A270; clear A270; (by_cases c28 : t242 = true)
                ·subst c28
                 (replace H : ((boxpack_Check.f k t195 t196 t197 1 y204).bind fun t243 => (if t243 = 0 then ((boxpack_Check.f k 0 0 0 0 ([] : List (S56))).bind fun t244 => (some (t244 == 6))) else (none))) = some r := by rw [if_pos rfl] at H; exact H); obtain ⟨t243, A290, H⟩ := obs_ H; (try dsimp only at H); have A29 := ak A290; clear A290; (by_cases c30 : t243 = 0)
                 ·rw [if_pos c30] at H
                  have c30b0 := beq_iff_eq.mpr c30; have c30b1 := bne_eq_false_iff_eq.mpr c30; clear c30; obtain ⟨t244, A310, H⟩ := obs_ H; (try dsimp only at H); have A31 := ak A310; clear A310; obtain rfl := Option.some.inj H; (go_enter Try.func10, Try.ntmps10); (try dsimp only [List.append_eq, List.cons_append, List.nil_append]); (go_wp2_with (first | ((with_reducible refine gate_callee (f := 27) rfl ?_); refine gl_ 16 Try.func27 #[.int .i64 5, .int .i64 2, .int .i64 1] ?_; (with_reducible refine (lw_vec.calls 5 2 1 t195 t196 t197 _ A1.1).mono ?_); rintro e w32 ⟨rfl, hb⟩; refine ⟨_, rfl, ?_⟩; replace HB := hs_ HB hb; (try clear hb)) | ((with_reducible refine gate_callee (f := 27) rfl ?_); refine gl_ 17 Try.func27 #[.int .i64 2, .int .i64 2, .int .i64 1] ?_; (with_reducible refine (lw_vec.calls 2 2 1 t198 t199 t200 _ A2.1).mono ?_); rintro e w33 ⟨rfl, hb⟩; refine ⟨_, rfl, ?_⟩; replace HB := hs_ HB hb; (try clear hb)) | ((with_reducible refine gate_callee (f := 27) rfl ?_); refine gl_ 19 Try.func27 #[.int .i64 1, .int .i64 1, .int .i64 1] ?_; (with_reducible refine (lw_vec.calls 1 1 1 t201 t202 t203 _ A3.1).mono ?_); rintro e w34 ⟨rfl, hb⟩; refine ⟨_, rfl, ?_⟩; replace HB := hs_ HB hb; (try clear hb)) | ((with_reducible refine gate_dst (N := 21) rfl ?_); refine Kd.R_lit k56 _ 56 ?hg (N := 21) ?hd (xs := ([(⟨(⟨#[97]⟩ : ByteArray), (⟨t198, t199, t200⟩ : S23), 5, 0, 0⟩ : S56), (⟨(⟨#[98]⟩ : ByteArray), (⟨t201, t202, t203⟩ : S23), 1, 0, 0⟩ : S56)] : List (S56))) (inner := [.string (⟨#[97]⟩ : ByteArray), .int .i64 t198, .int .i64 t199, .int .i64 t200, .int .i64 5, .int .i64 0, .int .i64 0, .string (⟨#[98]⟩ : ByteArray), .int .i64 t201, .int .i64 t202, .int .i64 t203, .int .i64 1, .int .i64 0, .int .i64 0]) (ok := fun _ => True) (okp := fun _ => True) ?hr ?hp (fun _ hk => hk) trivial (Below.refl _ _) (Nat.le_refl _) (by simp) ?_; (case hd => rfl); (case hg => rfl); (case hr => (go_simp; done)); (case hp => exact (Reps.c7 (show Kd.M k56 _ _ _ (⟨(⟨#[97]⟩ : ByteArray), (⟨t198, t199, t200⟩ : S23), 5, 0, 0⟩ : S56) [.string (⟨#[97]⟩ : ByteArray), .int .i64 t198, .int .i64 t199, .int .i64 t200, .int .i64 5, .int .i64 0, .int .i64 0] from (k56_mkM _ _ _ (⟨(⟨#[97]⟩ : ByteArray), (⟨t198, t199, t200⟩ : S23), 5, 0, 0⟩ : S56) )) (Reps.c7 (show Kd.M k56 _ _ _ (⟨(⟨#[98]⟩ : ByteArray), (⟨t201, t202, t203⟩ : S23), 1, 0, 0⟩ : S56) [.string (⟨#[98]⟩ : ByteArray), .int .i64 t201, .int .i64 t202, .int .i64 t203, .int .i64 1, .int .i64 0, .int .i64 0] from (k56_mkM _ _ _ (⟨(⟨#[98]⟩ : ByteArray), (⟨t201, t202, t203⟩ : S23), 1, 0, 0⟩ : S56) )) (Reps.none _ _)))); intro v205 w35 ho36 hb hg_ hnew_; clear hg_ hnew_; (rw [← Ny204.1] at ho36); have HO206 := ak (Kd.R_lower ho36 (below_size (hb_ HB))); replace HB := hs_ HB hb; clear hb ho36; obtain ⟨Ao37, co37, eo37⟩ := Kd.R_slice HO206.1; subst eo37) | ((with_reducible refine gate_dst (N := 1) rfl ?_); refine bx_ 1 #[.int .i64 0, .int .i64 0, .int .i64 0, .int .i64 0, .slice none 0 0] 33 ?_; intro gb207 hg w38 hbox hb; replace HO206 := rb_ HO206 hb; have BK207 := ak (hbox); have GW207 := gw_ HB hg; have GE207 := gw_ HB hg; replace HB := hs_ HB hb; clear hb hbox hg; obtain ⟨hcz39_0, hcz39_1, hcz39_2, hcz39_3, hcz39_4, hfz39_0, hfz39_1, hfz39_2, hfz39_3, hfz39_4⟩ := cz5_ BK207) | ((with_reducible refine gate_callee (f := 16) rfl ?_); refine gl_ 25 Try.func16 #[.agg #[.int .i64 t195, .int .i64 t196, .int .i64 t197, .int .i64 1, .slice Ao37 y204.length co37]] ?_; (with_reducible refine (boxpack_Best.calls k t195 t196 t197 1 _ _ y204 t208 t209 t212 _ ?side1 ?side2 A4.1).mono ?_); (case side1 => refine (Kd.R_reads' (e := 56) (base := w.heap.size) (ok := fun k_ => True) (n := y204.length) (c := co37) ?_).2.2; exact (by exact (Kd.R_mono (Kd.R_far (p := ⟨gb207, 4, none⟩) (Kd.R_far (p := ⟨gb207, 3, none⟩) (Kd.R_far (p := ⟨gb207, 2, none⟩) (Kd.R_far (p := ⟨gb207, 1, none⟩) (Kd.R_far (p := ⟨gb207, 0, none⟩) (Kd.R_types HO206.1 BK207.1 (by decide)) (fun _ hk => hk.2) (.int .i64 t195)) (fun _ hk => hk.2) (.int .i64 t196)) (fun _ hk => hk.2) (.int .i64 t197)) (fun _ hk => hk.2) (.int .i64 1)) (fun _ hk => hk.2) (.slice Ao37 y204.length co37)) (fun _ h_ => h_.1)))); (case side2 => exact (Kd.R_reads' HO206.1).2.1); rintro e w40 ⟨v210, rfl, ho0, hb⟩; refine ⟨_, rfl, ?_⟩; replace HO206 := ak (Kd.R_below (by exact (Kd.R_mono (Kd.R_far (p := ⟨gb207, 4, none⟩) (Kd.R_far (p := ⟨gb207, 3, none⟩) (Kd.R_far (p := ⟨gb207, 2, none⟩) (Kd.R_far (p := ⟨gb207, 1, none⟩) (Kd.R_far (p := ⟨gb207, 0, none⟩) (Kd.R_types HO206.1 BK207.1 (by decide)) (fun _ hk => hk.2) (.int .i64 t195)) (fun _ hk => hk.2) (.int .i64 t196)) (fun _ hk => hk.2) (.int .i64 t197)) (fun _ hk => hk.2) (.int .i64 1)) (fun _ hk => hk.2) (.slice Ao37 y204.length co37)) (fun _ h_ => h_.1))) hb); have HO211 := ak (Kd.R_lower ho0 (below_size (hb_ HB))); replace BK207 := ak (blk_below (g := gb207) (o := .cells #[.int .i64 t195, .int .i64 t196, .int .i64 t197, .int .i64 1, .slice Ao37 y204.length co37] 33 (0, 0)) (by refine blk_put (cs := #[.int .i64 t195, .int .i64 t196, .int .i64 t197, .int .i64 1, .slice none 0 0]) ?_ 4 _ rfl; refine blk_put (cs := #[.int .i64 t195, .int .i64 t196, .int .i64 t197, .int .i64 0, .slice none 0 0]) ?_ 3 _ rfl; refine blk_put (cs := #[.int .i64 t195, .int .i64 t196, .int .i64 0, .int .i64 0, .slice none 0 0]) ?_ 2 _ rfl; refine blk_put (cs := #[.int .i64 t195, .int .i64 0, .int .i64 0, .int .i64 0, .slice none 0 0]) ?_ 1 _ rfl; refine blk_put (cs := #[.int .i64 0, .int .i64 0, .int .i64 0, .int .i64 0, .slice none 0 0]) ?_ 0 _ rfl; exact BK207.1) hb); replace HB := hs_ HB hb; (try clear hb); (try clear ho0); obtain ⟨hcz41_0, hcz41_1, hcz41_2, hcz41_3, hcz41_4, hfz41_0, hfz41_1, hfz41_2, hfz41_3, hfz41_4⟩ := cz5_ BK207; obtain ⟨Ao42, co42, eo42⟩ := Kd.R_slice HO211.1; subst eo42) | ((with_reducible refine gate_callee (f := 12) rfl ?_); refine gl_ 32 Try.func12 #[.agg #[.int .i64 t195, .int .i64 t196, .int .i64 t197, .int .i64 1, .slice Ao37 y204.length co37], .slice Ao42 t209.length co42] ?_; (with_reducible refine (boxpack_Value.calls k t195 t196 t197 1 _ _ y204 _ _ t209 t213 t214 _ ?side1 ?side2 ?side3 ?side4 A5.1).mono ?_); (case side1 => exact (Kd.R_reads' HO206.1).2.2); (case side2 => exact (Kd.R_reads' HO206.1).2.1); (case side3 => exact (Kd.R_reads' HO211.1).2.2); (case side4 => exact (Kd.R_reads' HO211.1).2.1); rintro e w43 ⟨rfl, hb⟩; refine ⟨_, rfl, ?_⟩; replace HO206 := rb_ HO206 hb; replace HO211 := rb_ HO211 hb; replace BK207 := bb_ BK207 hb; replace HB := hs_ HB hb; (try clear hb); obtain ⟨hcz44_0, hcz44_1, hcz44_2, hcz44_3, hcz44_4, hfz44_0, hfz44_1, hfz44_2, hfz44_3, hfz44_4⟩ := cz5_ BK207) | ((with_reducible refine gate_dst (N := 7) rfl ?_); refine bx_ 7 #[.int .i64 0, .int .i64 0, .int .i64 0, .int .i64 0, .slice none 0 0] 33 ?_; intro gb215 hg w45 hbox hb; replace HO206 := rb_ HO206 hb; replace HO211 := rb_ HO211 hb; have BK215 := ak (hbox); have GW215 := gw_ HB hg; have GE215 := gw_ HB hg; replace HB := hs_ HB hb; have NB207_215 := nl_ BK207 hg; have NB215_207 := nr_ BK207 hg; replace BK207 := bb_ BK207 hb; clear hb hbox hg; have hnb46 := NB215_207.1; have hnc46 := NB207_215.1; obtain ⟨hcz47_0, hcz47_1, hcz47_2, hcz47_3, hcz47_4, hfz47_0, hfz47_1, hfz47_2, hfz47_3, hfz47_4⟩ := cz5_ BK215) | ((with_reducible refine gate_callee (f := 27) rfl ?_); refine gl_ 36 Try.func27 #[.int .i64 2, .int .i64 2, .int .i64 1] ?_; (with_reducible refine (lw_vec.calls 2 2 1 t216 t217 t218 _ A6.1).mono ?_); rintro e w48 ⟨rfl, hb⟩; refine ⟨_, rfl, ?_⟩; replace HO206 := ak (Kd.R_below (by exact (Kd.R_mono (Kd.R_far (p := ⟨gb215, 4, none⟩) (Kd.R_far (p := ⟨gb215, 3, none⟩) (Kd.R_far (p := ⟨gb215, 2, none⟩) (Kd.R_far (p := ⟨gb215, 1, none⟩) (Kd.R_far (p := ⟨gb215, 0, none⟩) (Kd.R_types HO206.1 BK215.1 (by decide)) (fun _ hk => hk.2) (.int .i64 t195)) (fun _ hk => hk.2) (.int .i64 t196)) (fun _ hk => hk.2) (.int .i64 t197)) (fun _ hk => hk.2) (.int .i64 1)) (fun _ hk => hk.2) (.slice Ao37 y204.length co37)) (fun _ h_ => h_.1))) hb); replace HO211 := ak (Kd.R_below (by exact (Kd.R_mono (Kd.R_far (p := ⟨gb215, 4, none⟩) (Kd.R_far (p := ⟨gb215, 3, none⟩) (Kd.R_far (p := ⟨gb215, 2, none⟩) (Kd.R_far (p := ⟨gb215, 1, none⟩) (Kd.R_far (p := ⟨gb215, 0, none⟩) (Kd.R_types HO211.1 BK215.1 (by decide)) (fun _ hk => hk.2) (.int .i64 t195)) (fun _ hk => hk.2) (.int .i64 t196)) (fun _ hk => hk.2) (.int .i64 t197)) (fun _ hk => hk.2) (.int .i64 1)) (fun _ hk => hk.2) (.slice Ao37 y204.length co37)) (fun _ h_ => h_.1))) hb); replace BK207 := ak (blk_below (g := gb207) (o := .cells #[.int .i64 t195, .int .i64 t196, .int .i64 t197, .int .i64 1, .slice Ao37 y204.length co37] 33 (0, 0)) (by refine blk_far ?_ NB207_215.1 _; refine blk_far ?_ NB207_215.1 _; refine blk_far ?_ NB207_215.1 _; refine blk_far ?_ NB207_215.1 _; refine blk_far ?_ NB207_215.1 _; exact BK207.1) hb); replace BK215 := ak (blk_below (g := gb215) (o := .cells #[.int .i64 t195, .int .i64 t196, .int .i64 t197, .int .i64 1, .slice Ao37 y204.length co37] 33 (0, 0)) (by refine blk_put (cs := #[.int .i64 t195, .int .i64 t196, .int .i64 t197, .int .i64 1, .slice none 0 0]) ?_ 4 _ rfl; refine blk_put (cs := #[.int .i64 t195, .int .i64 t196, .int .i64 t197, .int .i64 0, .slice none 0 0]) ?_ 3 _ rfl; refine blk_put (cs := #[.int .i64 t195, .int .i64 t196, .int .i64 0, .int .i64 0, .slice none 0 0]) ?_ 2 _ rfl; refine blk_put (cs := #[.int .i64 t195, .int .i64 0, .int .i64 0, .int .i64 0, .slice none 0 0]) ?_ 1 _ rfl; refine blk_put (cs := #[.int .i64 0, .int .i64 0, .int .i64 0, .int .i64 0, .slice none 0 0]) ?_ 0 _ rfl; exact BK215.1) hb); replace HB := hs_ HB hb; (try clear hb); obtain ⟨hcz49_0, hcz49_1, hcz49_2, hcz49_3, hcz49_4, hfz49_0, hfz49_1, hfz49_2, hfz49_3, hfz49_4⟩ := cz5_ BK215) | ((with_reducible refine gate_callee (f := 20) rfl ?_); refine gl_ 40 Try.func20 #[.agg #[.int .i64 t216, .int .i64 t217, .int .i64 t218, .int .i64 1, .slice Ao37 y204.length co37]] ?_; (with_reducible refine (boxpack_Table.calls k t216 t217 t218 1 _ _ y204 t219 t222 _ ?side1 ?side2 A7.1).mono ?_); (case side1 => refine (Kd.R_reads' (e := 56) (base := w.heap.size) (ok := fun k_ => True) (n := y204.length) (c := co37) ?_).2.2; exact (by exact (Kd.R_mono (Kd.R_far (p := ⟨gb215, 2, none⟩) (Kd.R_far (p := ⟨gb215, 1, none⟩) (Kd.R_far (p := ⟨gb215, 0, none⟩) (Kd.R_types HO206.1 BK215.1 (by decide)) (fun _ hk => hk.2) (.int .i64 t216)) (fun _ hk => hk.2) (.int .i64 t217)) (fun _ hk => hk.2) (.int .i64 t218)) (fun _ h_ => h_.1)))); (case side2 => exact (Kd.R_reads' HO206.1).2.1); rintro e w50 ⟨v220, rfl, ho0, hb⟩; refine ⟨_, rfl, ?_⟩; replace HO206 := ak (Kd.R_below (by exact (Kd.R_mono (Kd.R_far (p := ⟨gb215, 2, none⟩) (Kd.R_far (p := ⟨gb215, 1, none⟩) (Kd.R_far (p := ⟨gb215, 0, none⟩) (Kd.R_types HO206.1 BK215.1 (by decide)) (fun _ hk => hk.2) (.int .i64 t216)) (fun _ hk => hk.2) (.int .i64 t217)) (fun _ hk => hk.2) (.int .i64 t218)) (fun _ h_ => h_.1))) hb); replace HO211 := ak (Kd.R_below (by exact (Kd.R_mono (Kd.R_far (p := ⟨gb215, 2, none⟩) (Kd.R_far (p := ⟨gb215, 1, none⟩) (Kd.R_far (p := ⟨gb215, 0, none⟩) (Kd.R_types HO211.1 BK215.1 (by decide)) (fun _ hk => hk.2) (.int .i64 t216)) (fun _ hk => hk.2) (.int .i64 t217)) (fun _ hk => hk.2) (.int .i64 t218)) (fun _ h_ => h_.1))) hb); have HO221 := ak (Kd.R_lower ho0 (below_size (hb_ HB))); replace BK207 := ak (blk_below (g := gb207) (o := .cells #[.int .i64 t195, .int .i64 t196, .int .i64 t197, .int .i64 1, .slice Ao37 y204.length co37] 33 (0, 0)) (by refine blk_far ?_ NB207_215.1 _; refine blk_far ?_ NB207_215.1 _; refine blk_far ?_ NB207_215.1 _; exact BK207.1) hb); replace BK215 := ak (blk_below (g := gb215) (o := .cells #[.int .i64 t216, .int .i64 t217, .int .i64 t218, .int .i64 1, .slice Ao37 y204.length co37] 33 (0, 0)) (by refine blk_put (cs := #[.int .i64 t216, .int .i64 t217, .int .i64 t197, .int .i64 1, .slice Ao37 y204.length co37]) ?_ 2 _ rfl; refine blk_put (cs := #[.int .i64 t216, .int .i64 t196, .int .i64 t197, .int .i64 1, .slice Ao37 y204.length co37]) ?_ 1 _ rfl; refine blk_put (cs := #[.int .i64 t195, .int .i64 t196, .int .i64 t197, .int .i64 1, .slice Ao37 y204.length co37]) ?_ 0 _ rfl; exact BK215.1) hb); replace HB := hs_ HB hb; (try clear hb); (try clear ho0); obtain ⟨hcz51_0, hcz51_1, hcz51_2, hcz51_3, hcz51_4, hfz51_0, hfz51_1, hfz51_2, hfz51_3, hfz51_4⟩ := cz5_ BK215) | ((with_reducible refine gate_dst (N := 45) rfl ?_); refine Kd.R_lit (Kd.int .i64) _ 2 ?hg (N := 45) ?hd (xs := ([1, 1, 1, 4] : List Int)) (inner := [.int .i64 1, .int .i64 1, .int .i64 1, .int .i64 4]) (ok := fun _ => True) (okp := fun _ => True) ?hr ?hp (fun _ hk => hk) trivial (Below.refl _ _) (Nat.le_refl _) (by simp) ?_; (case hd => rfl); (case hg => rfl); (case hr => (go_simp; done)); (case hp => exact (Reps.one (show Kd.M (Kd.int .i64) _ _ _ 1 [.int .i64 1] from rfl) (Reps.one (show Kd.M (Kd.int .i64) _ _ _ 1 [.int .i64 1] from rfl) (Reps.one (show Kd.M (Kd.int .i64) _ _ _ 1 [.int .i64 1] from rfl) (Reps.one (show Kd.M (Kd.int .i64) _ _ _ 4 [.int .i64 4] from rfl) (Reps.none _ _)))))); intro v224 w52 ho53 hb hg_ hnew_; clear hg_ hnew_; (rw [← Ny223.1] at ho53); replace HO206 := rb_ HO206 hb; replace HO211 := rb_ HO211 hb; have HO225 := ak (Kd.R_lower (Kd.R_new' ho53 (Kd.R_lt (rk_ HO221))) (below_size (hb_ HB))); replace HO221 := ak (Kd.R_elder' (rk_ HO221) (Kd.R_base ho53) hb); replace BK207 := bb_ BK207 hb; replace BK215 := bb_ BK215 hb; replace HB := hs_ HB hb; clear hb ho53; obtain ⟨Ao54, co54, eo54⟩ := Kd.R_slice HO225.1; subst eo54) | ((with_reducible refine gate_callee (f := 21) rfl ?_); refine gl_ 46 Try.func21 #[.agg #[.int .i64 t216, .int .i64 t217, .int .i64 t218, .int .i64 1, .slice Ao37 y204.length co37], .slice Ao54 y223.length co54] ?_; (with_reducible refine (boxpack_CheckTable.calls k t216 t217 t218 1 _ _ y204 _ _ y223 t226 t227 _ ?side1 ?side2 ?side3 ?side4 A8.1).mono ?_); (case side1 => exact (Kd.R_reads' HO206.1).2.2); (case side2 => exact (Kd.R_reads' HO206.1).2.1); (case side3 => exact (Kd.R_reads' HO225.1).2.2); (case side4 => exact (Kd.R_reads' HO225.1).2.1); rintro e w55 ⟨rfl, hb⟩; refine ⟨_, rfl, ?_⟩; replace HO206 := rb_ HO206 hb; replace HO211 := rb_ HO211 hb; replace HO221 := rb_ HO221 hb; replace HO225 := rb_ HO225 hb; replace BK207 := bb_ BK207 hb; replace BK215 := bb_ BK215 hb; replace HB := hs_ HB hb; (try clear hb); obtain ⟨hcz56_0, hcz56_1, hcz56_2, hcz56_3, hcz56_4, hfz56_0, hfz56_1, hfz56_2, hfz56_3, hfz56_4⟩ := cz5_ BK215) | ((with_reducible refine gate_dst (N := 51) rfl ?_); refine Kd.R_lit (Kd.int .i64) _ 2 ?hg (N := 51) ?hd (xs := ([1, 1, 1, 9] : List Int)) (inner := [.int .i64 1, .int .i64 1, .int .i64 1, .int .i64 9]) (ok := fun _ => True) (okp := fun _ => True) ?hr ?hp (fun _ hk => hk) trivial (Below.refl _ _) (Nat.le_refl _) (by simp) ?_; (case hd => rfl); (case hg => rfl); (case hr => (go_simp; done)); (case hp => exact (Reps.one (show Kd.M (Kd.int .i64) _ _ _ 1 [.int .i64 1] from rfl) (Reps.one (show Kd.M (Kd.int .i64) _ _ _ 1 [.int .i64 1] from rfl) (Reps.one (show Kd.M (Kd.int .i64) _ _ _ 1 [.int .i64 1] from rfl) (Reps.one (show Kd.M (Kd.int .i64) _ _ _ 9 [.int .i64 9] from rfl) (Reps.none _ _)))))); intro v229 w57 ho58 hb hg_ hnew_; clear hg_ hnew_; (rw [← Ny228.1] at ho58); replace HO206 := rb_ HO206 hb; replace HO211 := rb_ HO211 hb; have HO230 := ak (Kd.R_lower (Kd.R_new' ho58 (Kd.R_lt (rk_ HO221))) (below_size (hb_ HB))); replace HO221 := ak (Kd.R_elder' (rk_ HO221) (Kd.R_base ho58) hb); replace BK207 := bb_ BK207 hb; replace BK215 := bb_ BK215 hb; replace HB := hs_ HB hb; clear hb ho58; obtain ⟨Ao59, co59, eo59⟩ := Kd.R_slice HO230.1; subst eo59) | ((with_reducible refine gate_callee (f := 22) rfl ?_); refine gl_ 52 Try.func22 #[.agg #[.int .i64 t216, .int .i64 t217, .int .i64 t218, .int .i64 1, .slice Ao37 y204.length co37], .slice Ao59 y228.length co59] ?_; (with_reducible refine (boxpack_Bound.calls k t216 t217 t218 1 _ _ y204 _ _ y228 t231 t232 _ ?side1 ?side2 ?side3 ?side4 A9.1).mono ?_); (case side1 => exact (Kd.R_reads' HO206.1).2.2); (case side2 => exact (Kd.R_reads' HO206.1).2.1); (case side3 => exact (Kd.R_reads' HO230.1).2.2); (case side4 => exact (Kd.R_reads' HO230.1).2.1); rintro e w60 ⟨rfl, hb⟩; refine ⟨_, rfl, ?_⟩; replace HO206 := rb_ HO206 hb; replace HO211 := rb_ HO211 hb; replace HO221 := rb_ HO221 hb; replace HO230 := rb_ HO230 hb; replace BK207 := bb_ BK207 hb; replace BK215 := bb_ BK215 hb; replace HB := hs_ HB hb; (try clear hb); obtain ⟨hcz61_0, hcz61_1, hcz61_2, hcz61_3, hcz61_4, hfz61_0, hfz61_1, hfz61_2, hfz61_3, hfz61_4⟩ := cz5_ BK207) | ((with_reducible refine gate_callee (f := 20) rfl ?_); refine gl_ 57 Try.func20 #[.agg #[.int .i64 t195, .int .i64 t196, .int .i64 t197, .int .i64 1, .slice Ao37 y204.length co37]] ?_; (with_reducible refine (boxpack_Table.calls k t195 t196 t197 1 _ _ y204 t233 t236 _ ?side1 ?side2 A10.1).mono ?_); (case side1 => exact (Kd.R_reads' HO206.1).2.2); (case side2 => exact (Kd.R_reads' HO206.1).2.1); rintro e w62 ⟨v234, rfl, ho0, hb⟩; refine ⟨_, rfl, ?_⟩; replace HO206 := rb_ HO206 hb; replace HO211 := rb_ HO211 hb; have HO235 := ak (Kd.R_lower (Kd.R_new' ho0 (Kd.R_lt (rk_ HO221))) (below_size (hb_ HB))); replace HO221 := ak (Kd.R_elder' (rk_ HO221) (Kd.R_base ho0) hb); replace BK207 := bb_ BK207 hb; replace BK215 := bb_ BK215 hb; replace HB := hs_ HB hb; (try clear hb); (try clear ho0); have p237 : 0 ≤ (0 : Int) := (by omega); have q237 : 0 < (t209.length : Int) := od_; obtain ⟨ad237, e237, hx237_0, hx237_1, hx237_2, hx237_3, hx237_4, hx237_5, hx237_6⟩ := at_T61 (Kd.R_reads' HO211.1).2.2 0 p237 q237; cases e237; have qi237 : (0 < t209.length) = True := eq_true (by omega); (try rw [show ((0 : Int)).toNat = 0 from rfl] at hx237_0); (try rw [show 0 * 7 = 0 from rfl] at hx237_0); (try rw [Addr.add_zero'] at hx237_0); (try rw [show ((0 : Int)).toNat = 0 from rfl] at hx237_1); (try rw [show 0 * 7 = 0 from rfl] at hx237_1); (try rw [Addr.add_zero'] at hx237_1); (try rw [show ((0 : Int)).toNat = 0 from rfl] at hx237_2); (try rw [show 0 * 7 = 0 from rfl] at hx237_2); (try rw [Addr.add_zero'] at hx237_2); (try rw [show ((0 : Int)).toNat = 0 from rfl] at hx237_3); (try rw [show 0 * 7 = 0 from rfl] at hx237_3); (try rw [Addr.add_zero'] at hx237_3); (try rw [show ((0 : Int)).toNat = 0 from rfl] at hx237_4); (try rw [show 0 * 7 = 0 from rfl] at hx237_4); (try rw [Addr.add_zero'] at hx237_4); (try rw [show ((0 : Int)).toNat = 0 from rfl] at hx237_5); (try rw [show 0 * 7 = 0 from rfl] at hx237_5); (try rw [Addr.add_zero'] at hx237_5); (try rw [show ((0 : Int)).toNat = 0 from rfl] at hx237_6); (try rw [show 0 * 7 = 0 from rfl] at hx237_6); (try rw [Addr.add_zero'] at hx237_6); replace p237 := eq_true p237; replace q237 := eq_true q237) | ((with_reducible refine gate_dst (N := 97) rfl ?_); refine Kd.R_lit (Kd.int .i64) _ 2 ?hg (N := 97) ?hd (xs := ([1, 1, 1, 5] : List Int)) (inner := [.int .i64 1, .int .i64 1, .int .i64 1, .int .i64 5]) (ok := fun _ => True) (okp := fun _ => True) ?hr ?hp (fun _ hk => hk) trivial (Below.refl _ _) (Nat.le_refl _) (by simp) ?_; (case hd => rfl); (case hg => rfl); (case hr => (go_simp; done)); (case hp => exact (Reps.one (show Kd.M (Kd.int .i64) _ _ _ 1 [.int .i64 1] from rfl) (Reps.one (show Kd.M (Kd.int .i64) _ _ _ 1 [.int .i64 1] from rfl) (Reps.one (show Kd.M (Kd.int .i64) _ _ _ 1 [.int .i64 1] from rfl) (Reps.one (show Kd.M (Kd.int .i64) _ _ _ 5 [.int .i64 5] from rfl) (Reps.none _ _)))))); intro v239 w63 ho64 hb hg_ hnew_; clear hg_ hnew_; (rw [← Ny238.1] at ho64); replace HO206 := rb_ HO206 hb; replace HO211 := rb_ HO211 hb; have HO240 := ak (Kd.R_lower (Kd.R_new' (Kd.R_new' ho64 (Kd.R_lt (rk_ HO221))) (Kd.R_lt (rk_ HO235))) (below_size (hb_ HB))); replace HO221 := ak (Kd.R_elder' (rk_ HO221) (Kd.R_base ho64) hb); replace HO235 := ak (Kd.R_elder' (rk_ HO235) (Kd.R_base ho64) hb); replace BK207 := bb_ BK207 hb; replace BK215 := bb_ BK215 hb; replace HB := hs_ HB hb; clear hb ho64; obtain ⟨Ao65, co65, eo65⟩ := Kd.R_slice HO221.1; subst eo65; obtain ⟨Ao66, co66, eo66⟩ := Kd.R_slice HO240.1; subst eo66) | (go_at_call 24; (with_reducible refine (rf_SameTable.calls k _ _ t219 _ _ y238 true _ ?side1 ?side2 ?side3 ?side4 A20.1).mono ?_); (case side1 => exact (Kd.R_reads' HO221.1).2.2); (case side2 => exact (Kd.R_reads' HO221.1).2.1); (case side3 => exact (Kd.R_reads' HO240.1).2.2); (case side4 => exact (Kd.R_reads' HO240.1).2.1); rintro e w' ⟨rfl, ⟨nd, rfl⟩⟩; obtain ⟨hcz67_0, hcz67_1, hcz67_2, hcz67_3, hcz67_4, hfz67_0, hfz67_1, hfz67_2, hfz67_3, hfz67_4⟩ := cz5_ BK207; obtain ⟨Ao68, co68, eo68⟩ := Kd.R_slice HO235.1; subst eo68) | (go_at_call 25; (with_reducible refine (boxpack_Proves.calls k t195 t196 t197 1 _ _ y204 _ _ t233 _ _ t209 true _ ?side1 ?side2 ?side3 ?side4 ?side5 ?side6 A27.1).mono ?_); (case side1 => exact (Kd.R_reads' HO206.1).2.2); (case side2 => exact (Kd.R_reads' HO206.1).2.1); (case side3 => exact (Kd.R_reads' HO235.1).2.2); (case side4 => exact (Kd.R_reads' HO235.1).2.1); (case side5 => exact (Kd.R_reads' HO211.1).2.2); (case side6 => exact (Kd.R_reads' HO211.1).2.1); rintro e w69 ⟨rfl, hb⟩; replace HO206 := rb_ HO206 hb; replace HO211 := rb_ HO211 hb; replace HO235 := rb_ HO235 hb; replace BK207 := bb_ BK207 hb; replace BK215 := bb_ BK215 hb; replace HB := hs_ HB hb; (try clear hb); obtain ⟨hcz70_0, hcz70_1, hcz70_2, hcz70_3, hcz70_4, hfz70_0, hfz70_1, hfz70_2, hfz70_3, hfz70_4⟩ := cz5_ BK207) | (go_at_call 14; (with_reducible refine (boxpack_Check.calls k t195 t196 t197 1 _ _ y204 t243 _ ?side1 ?side2 A29.1).mono ?_); (case side1 => exact (Kd.R_reads' HO206.1).2.2); (case side2 => exact (Kd.R_reads' HO206.1).2.1); rintro e w71 ⟨rfl, hb⟩; replace HO206 := rb_ HO206 hb; replace BK207 := bb_ BK207 hb; replace BK215 := bb_ BK215 hb; replace HB := hs_ HB hb; (try clear hb)) | (go_at_call 14; (refine (boxpack_Check.calls k 0 0 0 0 _ _ ([] : List (S56)) t244 _ ?side1 ?side2 A31.1).mono ?_); (case side1 => exact Kd.C_nil _ _); (case side2 => exact Nat.le_refl _); rintro e w72 ⟨rfl, hb⟩; replace BK207 := bb_ BK207 hb; replace BK215 := bb_ BK215 hb; replace HB := hs_ HB hb; (try clear hb))))
                  (go_ret); (exact ⟨by rfl, hb_ HB⟩)
                 rw [if_neg c30] at H; (exact absurd H (by simp))
                replace c28 := Bool.eq_false_iff.mpr c28; subst c28; (replace H : (none) = some r := by rw [if_neg (show ¬ (false = true) by decide)] at H; exact H); (exact absurd H (by simp))
               rw [if_neg c26] at H; (exact absurd H (by simp))
              rw [if_neg c25] at H; (exact absurd H (by simp))
             rw [if_neg c24] at H; (exact absurd H (by simp))
            rw [if_neg c23] at H; (exact absurd H (by simp))
           rw [if_neg c22] at H; (exact absurd H (by simp))
          replace c21 := Bool.eq_false_iff.mpr c21; subst c21; (replace H : (none) = some r := by rw [if_neg (show ¬ (false = true) by decide)] at H; exact H); (exact absurd H (by simp))
         rw [if_neg c19] at H; (exact absurd H (by simp))
        rw [if_neg c18] at H; (exact absurd H (by simp))
       rw [if_neg c17] at H; (exact absurd H (by simp))
      rw [if_neg c16] at H; (exact absurd H (by simp))
     rw [if_neg c15] at H; (exact absurd H (by simp))
    rw [if_neg c14] at H; (exact absurd H (by simp))
   rw [if_neg c13] at H; (exact absurd H (by simp))
  rw [if_neg c12] at H; (exact absurd H (by simp))
 rw [if_neg c11] at H
 exact absurd H (by simp)

def rf_side.f (a0_0 : Int) (a0_1 : Int) (a0_2 : Int) (a1 : Int) : Option (Int) := (some (([a0_0, a0_1, a0_2] : List Int) : List Int)).bind fun y246 => (if 0 ≤ a1 then (if a1 < (y246.length : Int) then (some (rd y246 a1)) else (none)) else (none))
set_option maxHeartbeats 8000000 in
set_option maxRecDepth 100000 in
theorem rf_side.calls (a0_0 : Int) (a0_1 : Int) (a0_2 : Int) (a1 : Int) (r : Int) (w : World) (h : rf_side.f a0_0 a0_1 a0_2 a1 = some r) :
    Calls Try.prog 43 #[.agg #[.int .i64 a0_0, .int .i64 a0_1, .int .i64 a0_2], .int .i64 a1] w fun e w' => e = .returned (.int .i64 r) ∧ Below w.heap.size w w' := by
  have hu23 := Try.underlying23
  have HB := ak (Below.refl w.heap.size w)
  have H : ((some (([a0_0, a0_1, a0_2] : List Int) : List Int)).bind fun y246 => (if 0 ≤ a1 then (if a1 < (y246.length : Int) then (some (rd y246 a1)) else (none)) else (none))) = some r := h
  clear h
  obtain ⟨y246, hy246⟩ : ∃ y_ : List Int, y_ = (([a0_0, a0_1, a0_2] : List Int)) := ⟨_, rfl⟩
  replace H : (if 0 ≤ a1 then (if a1 < (y246.length : Int) then (some (rd y246 a1)) else (none)) else (none)) = some r := by (have H2_ := (Option.bind_some _ _).symm.trans H; rw [hy246]; with_reducible exact H2_)
  have Ny246 := ak hy246
  clear hy246
  by_cases c3 : 0 ≤ a1
  · rw [if_pos c3] at H
    have c3b0 : decide (0 ≤ a1) = true := decide_eq_true c3
    clear c3
    by_cases c4 : a1 < (y246.length : Int)
    · rw [if_pos c4] at H
      have c4b0 : decide (a1 < (y246.length : Int)) = true := decide_eq_true c4
      clear c4
      obtain rfl := Option.some.inj H
      go_enter Try.func43, Try.ntmps43
      go_wp2_with (first | ((with_reducible refine gate_dst (N := 2) rfl ?_); refine bx_ 2 #[.int .i64 a0_0, .int .i64 a0_1, .int .i64 a0_2] 23 ?_; intro gb245 hg w5 hbox hb; have n0_ := ak (below_step HB.1 hb); have n1_ := ak (hbox); have n2_ := ak ((by rw [hg]; exact (below_size HB.1) : w.heap.size ≤ gb245)); have n3_ := ak ((by rw [hg]; exact (below_size HB.1) : w.heap.size ≤ gb245)); clear HB; have HB := n0_; have BK245 := n1_; have GW245 := n2_; have GE245 := n3_; clear n0_ n1_ n2_ n3_; clear hb hbox hg; have hcz6_0 : w5.cell? ⟨gb245, 0, none⟩ = some (.int .i64 a0_0) := bc_ BK245 0; have hcz6_1 : w5.cell? ⟨gb245, 1, none⟩ = some (.int .i64 a0_1) := bc_ BK245 1; have hcz6_2 : w5.cell? ⟨gb245, 2, none⟩ = some (.int .i64 a0_2) := bc_ BK245 2; have hfz6_0 := blk_frozen BK245.1 0; have hfz6_1 := blk_frozen BK245.1 1; have hfz6_2 := blk_frozen BK245.1 2) | ((with_reducible refine gate_dst (N := 11) rfl ?_); refine Kd.R_lit (Kd.int .i64) _ 3 ?hg (N := 11) ?hd (xs := ([a0_0, a0_1, a0_2] : List Int)) (inner := [.int .i64 a0_0, .int .i64 a0_1, .int .i64 a0_2]) (ok := fun _ => True) (okp := fun _ => True) ?hr ?hp (fun _ hk => hk) trivial (Below.refl _ _) (Nat.le_refl _) (by simp) ?_; (case hd => rfl); (case hg => rfl); (case hr => (go_simp; done)); (case hp => exact (Reps.one (show Kd.M (Kd.int .i64) _ _ _ a0_0 [.int .i64 a0_0] from rfl) (Reps.one (show Kd.M (Kd.int .i64) _ _ _ a0_1 [.int .i64 a0_1] from rfl) (Reps.one (show Kd.M (Kd.int .i64) _ _ _ a0_2 [.int .i64 a0_2] from rfl) (Reps.none _ _))))); intro v247 w7 ho8 hb hg_ hnew_; clear hg_ hnew_; (rw [← Ny246.1] at ho8); have n0_ := ak (Kd.R_lower ho8 (below_size HB.1)); have n1_ := ak (blk_below (g := gb245) (o := .cells #[.int .i64 a0_0, .int .i64 a0_1, .int .i64 a0_2] 23 (0, 0)) (by exact BK245.1) hb); have n2_ := ak (below_step HB.1 hb); clear BK245; clear HB; have HO248 := n0_; have BK245 := n1_; have HB := n2_; clear n0_ n1_ n2_; clear hb ho8; obtain ⟨Ao9, co9, eo9⟩ := Kd.R_slice HO248.1; subst eo9; have p249 : 0 ≤ (a1 : Int) := od_; have q249 : a1 < (y246.length : Int) := od_; obtain ⟨ad249, e249, hx249_0⟩ := Kd.at_int (Kd.R_reads' HO248.1).2.2 a1 p249 q249; cases e249; replace p249 := eq_true p249; replace q249 := eq_true q249))
      go_ret
      exact ⟨by rfl, by repeat (with_reducible exact HB.1)⟩
    rw [if_neg c4] at H
    exact absurd H (by simp)
  rw [if_neg c3] at H
  exact absurd H (by simp)

def rf_sized.l0 : Nat → Int → Int → Int → Int → Option (Bool)
  | 0, _, _, _, _ => none
  | k + 1, x3, x251000, x251001, x251002 => if x3 < 3 then ((rf_side.f x251000 x251001 x251002 x3).bind fun t251 => (if t251 < 1 then (some false) else ((rf_side.f x251000 x251001 x251002 x3).bind fun t252 => (if t252 > 24 then (some false) else (rf_sized.l0 k (wrap64 (x3 + 1)) x251000 x251001 x251002))))) else (some true)
def rf_sized.f (k : Nat) (a0_0 : Int) (a0_1 : Int) (a0_2 : Int) : Option (Bool) := rf_sized.l0 k 0 a0_0 a0_1 a0_2
theorem rf_sized.mono_l : ∀ k, (∀ y0 y1 y2 y3, LeO (rf_sized.l0 k y0 y1 y2 y3) (rf_sized.l0 (k + 1) y0 y1 y2 y3))
  | 0 => fun _ _ _ _ r h => by simp [rf_sized.l0] at h
  | k + 1 => by
    have ih0 := rf_sized.mono_l k
    intro y0 y1 y2 y3
    unfold rf_sized.l0
    repeat' first
    | (with_reducible exact ih0 _ _ _ _)
    | (with_reducible exact LeO.refl _)
    | (with_reducible refine LeO.ite ?_ ?_)
    | (with_reducible refine LeO.bind ?_ (fun _ => ?_))
theorem rf_sized.mono : ∀ a0 a1 a2 k, LeO (rf_sized.f k a0 a1 a2) (rf_sized.f (k + 1) a0 a1 a2) := by
  intro a0 a1 a2 k
  have ih0 := rf_sized.mono_l k
  unfold rf_sized.f
  repeat' (with_reducible exact ih0 _ _ _ _)
set_option maxHeartbeats 8000000 in
set_option maxRecDepth 100000 in
theorem rf_sized.calls (k : Nat) (a0_0 : Int) (a0_1 : Int) (a0_2 : Int) (r : Bool) (w : World) (h : rf_sized.f k a0_0 a0_1 a0_2 = some r) :
    Calls Try.prog 33 #[.agg #[.int .i64 a0_0, .int .i64 a0_1, .int .i64 a0_2]] w fun e w' => e = .returned (.bool r) ∧ Below w.heap.size w w' := by
  have hu23 := Try.underlying23
  have HB := ak (Below.refl w.heap.size w)
  have H : (rf_sized.l0 k 0 a0_0 a0_1 a0_2) = some r := h
  clear h
  have H' := ak H
  clear H
  go_enter Try.func33, Try.ntmps33
  go_wp2_with (first | ((with_reducible refine gate_dst (N := 1) rfl ?_); refine bx_ 1 #[.int .i64 a0_0, .int .i64 a0_1, .int .i64 a0_2] 23 ?_; intro gb250 hg w2 hbox hb; have n0_ := ak (below_step HB.1 hb); have n1_ := ak (hbox); have n2_ := ak ((by rw [hg]; exact (below_size HB.1) : w.heap.size ≤ gb250)); have n3_ := ak ((by rw [hg]; exact (below_size HB.1) : w.heap.size ≤ gb250)); clear HB; have HB := n0_; have BK250 := n1_; have GW250 := n2_; have GE250 := n3_; clear n0_ n1_ n2_ n3_; clear hb hbox hg))
  go_loopg [3] k (fun kq v3 w' => ∃ (x3_1 : Int), v3 = .int .i64 x3_1 ∧ Aside0 (rf_sized.l0 kq x3_1 a0_0 a0_1 a0_2 = some r) ∧ Aside0 (kq ≤ k) ∧ Aside0 (w'.heap[gb250]? = some (.cells #[.int .i64 a0_0, .int .i64 a0_1, .int .i64 a0_2] 23 (0, 0))) ∧ Aside0 (Below w.heap.size w w'))
  case atStart => exact ⟨(0), (by rfl), H', ⟨Nat.le_refl _⟩, ⟨by exact BK250.1⟩, ⟨by repeat (with_reducible exact HB.1)⟩⟩
  clear H'
  obtain ⟨x3_1, rfl, HA, HK1, BK250, HB⟩ := hrel
  cases gk with
  | zero => exact absurd HA.1 (by simp [rf_sized.l0])
  | succ k1 =>
    have H := HA.1
    clear HA
    simp only [rf_sized.l0] at H
    by_cases c3 : x3_1 < 3
    · rw [if_pos c3] at H
      have c3b0 : decide (x3_1 < 3) = true := decide_eq_true c3
      clear c3
      replace H := Option.bind_eq_some_iff.mp H
      obtain ⟨t251, A40, H⟩ := H
      (try dsimp only at H)
      have A4 := ak A40
      clear A40
      by_cases c5 : t251 < 1
      · rw [if_pos c5] at H
        have c5b0 : decide (t251 < 1) = true := decide_eq_true c5
        clear c5
        obtain rfl := Option.some.inj H
        have hcz6_0 : wr.cell? ⟨gb250, 0, none⟩ = some (.int .i64 a0_0) := bc_ BK250 0
        have hcz6_1 : wr.cell? ⟨gb250, 1, none⟩ = some (.int .i64 a0_1) := bc_ BK250 1
        have hcz6_2 : wr.cell? ⟨gb250, 2, none⟩ = some (.int .i64 a0_2) := bc_ BK250 2
        have hfz6_0 := blk_frozen BK250.1 0
        have hfz6_1 := blk_frozen BK250.1 1
        have hfz6_2 := blk_frozen BK250.1 2
        go_wp2_with (first | ((with_reducible refine gate_callee (f := 43) rfl ?_); refine gl_ 10 Try.func43 #[.agg #[.int .i64 a0_0, .int .i64 a0_1, .int .i64 a0_2], .int .i64 x3_1] ?_; (with_reducible refine (rf_side.calls a0_0 a0_1 a0_2 x3_1 t251 _ A4.1).mono ?_); rintro e w7 ⟨rfl, hb⟩; refine ⟨_, rfl, ?_⟩; have n0_ := ak (blk_below (g := gb250) (o := .cells #[.int .i64 a0_0, .int .i64 a0_1, .int .i64 a0_2] 23 (0, 0)) (by exact BK250.1) hb); have n1_ := ak (below_step HB.1 hb); clear BK250; clear HB; have BK250 := n0_; have HB := n1_; clear n0_ n1_; (try clear hb)))
        go_ret
        exact ⟨by rfl, by repeat (with_reducible exact HB.1)⟩
      rw [if_neg c5] at H
      have c5b0 : decide (t251 < 1) = false := decide_eq_false c5
      clear c5
      replace H := Option.bind_eq_some_iff.mp H
      obtain ⟨t252, A80, H⟩ := H
      (try dsimp only at H)
      have A8 := ak A80
      clear A80
      by_cases c9 : t252 > 24
      · rw [if_pos c9] at H
        have c9b0 : decide (24 < t252) = true := decide_eq_true c9
        clear c9
        obtain rfl := Option.some.inj H
        have hcz10_0 : wr.cell? ⟨gb250, 0, none⟩ = some (.int .i64 a0_0) := bc_ BK250 0
        have hcz10_1 : wr.cell? ⟨gb250, 1, none⟩ = some (.int .i64 a0_1) := bc_ BK250 1
        have hcz10_2 : wr.cell? ⟨gb250, 2, none⟩ = some (.int .i64 a0_2) := bc_ BK250 2
        have hfz10_0 := blk_frozen BK250.1 0
        have hfz10_1 := blk_frozen BK250.1 1
        have hfz10_2 := blk_frozen BK250.1 2
        go_wp2_with (first | ((with_reducible refine gate_callee (f := 43) rfl ?_); refine gl_ 10 Try.func43 #[.agg #[.int .i64 a0_0, .int .i64 a0_1, .int .i64 a0_2], .int .i64 x3_1] ?_; (with_reducible refine (rf_side.calls a0_0 a0_1 a0_2 x3_1 t251 _ A4.1).mono ?_); rintro e w11 ⟨rfl, hb⟩; refine ⟨_, rfl, ?_⟩; have n0_ := ak (blk_below (g := gb250) (o := .cells #[.int .i64 a0_0, .int .i64 a0_1, .int .i64 a0_2] 23 (0, 0)) (by exact BK250.1) hb); have n1_ := ak (below_step HB.1 hb); clear BK250; clear HB; have BK250 := n0_; have HB := n1_; clear n0_ n1_; (try clear hb); have hcz12_0 : w11.cell? ⟨gb250, 0, none⟩ = some (.int .i64 a0_0) := bc_ BK250 0; have hcz12_1 : w11.cell? ⟨gb250, 1, none⟩ = some (.int .i64 a0_1) := bc_ BK250 1; have hcz12_2 : w11.cell? ⟨gb250, 2, none⟩ = some (.int .i64 a0_2) := bc_ BK250 2; have hfz12_0 := blk_frozen BK250.1 0; have hfz12_1 := blk_frozen BK250.1 1; have hfz12_2 := blk_frozen BK250.1 2) | (go_at_call 43; (with_reducible refine (rf_side.calls a0_0 a0_1 a0_2 x3_1 t252 _ A8.1).mono ?_); rintro e w13 ⟨rfl, hb⟩; have n0_ := ak (blk_below (g := gb250) (o := .cells #[.int .i64 a0_0, .int .i64 a0_1, .int .i64 a0_2] 23 (0, 0)) (by exact BK250.1) hb); have n1_ := ak (below_step HB.1 hb); clear BK250; clear HB; have BK250 := n0_; have HB := n1_; clear n0_ n1_; (try clear hb)))
        go_ret
        exact ⟨by rfl, by repeat (with_reducible exact HB.1)⟩
      rw [if_neg c9] at H
      have c9b0 : decide (24 < t252) = false := decide_eq_false c9
      clear c9
      have H' := ak H
      clear H
      have hcz14_0 : wr.cell? ⟨gb250, 0, none⟩ = some (.int .i64 a0_0) := bc_ BK250 0
      have hcz14_1 : wr.cell? ⟨gb250, 1, none⟩ = some (.int .i64 a0_1) := bc_ BK250 1
      have hcz14_2 : wr.cell? ⟨gb250, 2, none⟩ = some (.int .i64 a0_2) := bc_ BK250 2
      have hfz14_0 := blk_frozen BK250.1 0
      have hfz14_1 := blk_frozen BK250.1 1
      have hfz14_2 := blk_frozen BK250.1 2
      go_wp2_with (first | ((with_reducible refine gate_callee (f := 43) rfl ?_); refine gl_ 10 Try.func43 #[.agg #[.int .i64 a0_0, .int .i64 a0_1, .int .i64 a0_2], .int .i64 x3_1] ?_; (with_reducible refine (rf_side.calls a0_0 a0_1 a0_2 x3_1 t251 _ A4.1).mono ?_); rintro e w15 ⟨rfl, hb⟩; refine ⟨_, rfl, ?_⟩; have n0_ := ak (blk_below (g := gb250) (o := .cells #[.int .i64 a0_0, .int .i64 a0_1, .int .i64 a0_2] 23 (0, 0)) (by exact BK250.1) hb); have n1_ := ak (below_step HB.1 hb); clear BK250; clear HB; have BK250 := n0_; have HB := n1_; clear n0_ n1_; (try clear hb); have hcz16_0 : w15.cell? ⟨gb250, 0, none⟩ = some (.int .i64 a0_0) := bc_ BK250 0; have hcz16_1 : w15.cell? ⟨gb250, 1, none⟩ = some (.int .i64 a0_1) := bc_ BK250 1; have hcz16_2 : w15.cell? ⟨gb250, 2, none⟩ = some (.int .i64 a0_2) := bc_ BK250 2; have hfz16_0 := blk_frozen BK250.1 0; have hfz16_1 := blk_frozen BK250.1 1; have hfz16_2 := blk_frozen BK250.1 2) | (go_at_call 43; (with_reducible refine (rf_side.calls a0_0 a0_1 a0_2 x3_1 t252 _ A8.1).mono ?_); rintro e w17 ⟨rfl, hb⟩; have n0_ := ak (blk_below (g := gb250) (o := .cells #[.int .i64 a0_0, .int .i64 a0_1, .int .i64 a0_2] 23 (0, 0)) (by exact BK250.1) hb); have n1_ := ak (below_step HB.1 hb); clear BK250; clear HB; have BK250 := n0_; have HB := n1_; clear n0_ n1_; (try clear hb)))
      go_roundg k1
      case measure => have := HK1.1; omega
      case rel => exact ⟨(wrap64 (x3_1 + 1)), (by rfl), H', ⟨by have := HK1.1; omega⟩, ⟨by exact BK250.1⟩, ⟨by repeat (with_reducible exact HB.1)⟩⟩
    rw [if_neg c3] at H
    have c3b0 : decide (x3_1 < 3) = false := decide_eq_false c3
    clear c3
    obtain rfl := Option.some.inj H
    go_wp2
    go_ret
    exact ⟨by rfl, by repeat (with_reducible exact HB.1)⟩

end Go.Proofs.Ytgacodhpniehiaa.XA
