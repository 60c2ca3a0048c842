-- written by xprint.py, this project's own program (wip/), over the words of print.sh
import Derived.Test.YtaainbbkengjfaaXAx0
import Derived.Test.YtaainbbkengjfaaXAx12
import Derived.Test.YtaainbbkengjfaaXAx14
namespace Go.Proofs.Ytaainbbkengjfaa.XA
open Go.RowKit Go.Proofs.Ytaainbbkengjfaa.Opens Go.Proofs.YtaainbbkengjfaaW.PrintWords Go.Proofs.YtaainbbkengjfaaW.PrintLast Go.Proofs.YtaainbbkengjfaaW.PrintMore
attribute [local go_sem] max2_int min2_int max_two min_two max_three min_three max_four min_four   -- for this text's walks alone
set_option linter.unusedVariables false
set_option linter.unusedSimpArgs false

/-! ### gangsawref42_Plan: function 21 -/
mutual
def gangsawref42_Plan.j0 : Nat → Int → Int → Int → Int → Bool → Int → Int → Int → Int → Int → Int → Option (Int × Int × Int × Int × Int × Int × Int)
  | 0, _, _, _, _, _, _, _, _, _, _, _ => none
  | k + 1, x1, x2, x3, x4, x39, x260000, x260001, x260002, x260003, x260004, x260005 => if x39 = true then (some (0, 0, 0, 0, 0, 0, 6)) else (gangsawref42_Plan.l0 k x1 x2 x3 x4 1 x260000 x260001 x260002 x260003 x260004 x260005)
def gangsawref42_Plan.l0 : Nat → Int → Int → Int → Int → Int → Int → Int → Int → Int → Int → Int → Option (Int × Int × Int × Int × Int × Int × Int)
  | 0, _, _, _, _, _, _, _, _, _, _, _ => none
  | k + 1, x1, x2, x3, x4, x13, x260000, x260001, x260002, x260003, x260004, x260005 => if x13 ≤ 64 then (if x13 = 0 then (none) else (gangsawref42_Plan.l1 k x1 x2 x3 x4 x13 (mn (wrap64 (Int.tdiv x2 x13)) x260003) x260000 x260001 x260002 x260003 x260004 x260005)) else (some (0, 0, 0, 0, 0, 0, 9))
def gangsawref42_Plan.l1 : Nat → Int → Int → Int → Int → Int → Int → Int → Int → Int → Int → Int → Int → Option (Int × Int × Int × Int × Int × Int × Int)
  | 0, _, _, _, _, _, _, _, _, _, _, _, _ => none
  | k + 1, x1, x2, x3, x4, x13, x14, x260000, x260001, x260002, x260003, x260004, x260005 => if x14 ≥ x260002 then (if x13 = 0 then (none) else ((gangsawref42_Valid.f x13 (wrap64 (Int.tdiv x1 x13)) (Int.tmod x1 x13) x14 x3 x4).bind fun t267 => (if t267 = true then ((gangsawref42_Keeps.f k x260000 x260001 x260002 x260003 x260004 x260005 x13 (wrap64 (Int.tdiv x1 x13)) (Int.tmod x1 x13) x14 x3 x4).bind fun t268 => (gangsawref42_Plan.j3 k x1 x2 x3 x4 x13 x14 (t268 == 0) x260000 x260001 x260002 x260003 x260004 x260005 x13 (wrap64 (Int.tdiv x1 x13)) (Int.tmod x1 x13) x14 x3 x4)) else (gangsawref42_Plan.j3 k x1 x2 x3 x4 x13 x14 false x260000 x260001 x260002 x260003 x260004 x260005 x13 (wrap64 (Int.tdiv x1 x13)) (Int.tmod x1 x13) x14 x3 x4)))) else (gangsawref42_Plan.l0 k x1 x2 x3 x4 (wrap64 (x13 + 1)) x260000 x260001 x260002 x260003 x260004 x260005)
def gangsawref42_Plan.j3 : Nat → Int → Int → Int → Int → Int → Int → Bool → Int → Int → Int → Int → Int → Int → Int → Int → Int → Int → Int → Int → Option (Int × Int × Int × Int × Int × Int × Int)
  | 0, _, _, _, _, _, _, _, _, _, _, _, _, _, _, _, _, _, _, _ => none
  | k + 1, x1, x2, x3, x4, x13, x14, x77, x260000, x260001, x260002, x260003, x260004, x260005, x267000, x267001, x267002, x267003, x267004, x267005 => if x77 = true then (some (x267000, x267001, x267002, x267003, x267004, x267005, 0)) else ((gangsawref42_Valid.f x267000 x267001 x267002 x267003 x267004 x267005).bind fun t269 => (if t269 = true then ((gangsawref42_Keeps.f k x260000 x260001 x260002 x260003 x260004 x260005 x267000 x267001 x267002 x267003 x267004 x267005).bind fun t270 => (if t270 = 6 then (gangsawref42_Plan.l0 k x1 x2 x3 x4 (wrap64 (x13 + 1)) x260000 x260001 x260002 x260003 x260004 x260005) else (gangsawref42_Plan.l1 k x1 x2 x3 x4 x13 (wrap64 (x14 - 1)) x260000 x260001 x260002 x260003 x260004 x260005))) else (gangsawref42_Plan.l0 k x1 x2 x3 x4 (wrap64 (x13 + 1)) x260000 x260001 x260002 x260003 x260004 x260005)))
end
def gangsawref42_Plan.f (k : Nat) (a0_0 : Int) (a0_1 : Int) (a0_2 : Int) (a0_3 : Int) (a0_4 : Int) (a0_5 : Int) (a1 : Int) (a2 : Int) (a3 : Int) (a4 : Int) : Option (Int × Int × Int × Int × Int × Int × Int) := (gangsawref42_Check.f k a0_0 a0_1 a0_2 a0_3 a0_4 a0_5).bind fun t261 => (if t261 = 0 then ((gangsawref42_in.f a1 1 640000).bind fun t262 => (if t262 = true then ((gangsawref42_in.f a2 1 640000).bind fun t263 => (if t263 = true then ((gangsawref42_in.f a3 1 10000).bind fun t264 => (if t264 = true then ((gangsawref42_in.f a4 0 1000).bind fun t265 => (gangsawref42_Plan.j0 k a1 a2 a3 a4 (!t265) a0_0 a0_1 a0_2 a0_3 a0_4 a0_5)) else (gangsawref42_Plan.j0 k a1 a2 a3 a4 true a0_0 a0_1 a0_2 a0_3 a0_4 a0_5))) else (gangsawref42_Plan.j0 k a1 a2 a3 a4 true a0_0 a0_1 a0_2 a0_3 a0_4 a0_5))) else (gangsawref42_Plan.j0 k a1 a2 a3 a4 true a0_0 a0_1 a0_2 a0_3 a0_4 a0_5))) else (some (0, 0, 0, 0, 0, 0, t261)))
theorem gangsawref42_Plan.mono_l : ∀ k, (∀ y0 y1 y2 y3 y4 y5 y6 y7 y8 y9 y10, LeO (gangsawref42_Plan.j0 k y0 y1 y2 y3 y4 y5 y6 y7 y8 y9 y10) (gangsawref42_Plan.j0 (k + 1) y0 y1 y2 y3 y4 y5 y6 y7 y8 y9 y10)) ∧ (∀ y0 y1 y2 y3 y4 y5 y6 y7 y8 y9 y10, LeO (gangsawref42_Plan.l0 k y0 y1 y2 y3 y4 y5 y6 y7 y8 y9 y10) (gangsawref42_Plan.l0 (k + 1) y0 y1 y2 y3 y4 y5 y6 y7 y8 y9 y10)) ∧ (∀ y0 y1 y2 y3 y4 y5 y6 y7 y8 y9 y10 y11, LeO (gangsawref42_Plan.l1 k y0 y1 y2 y3 y4 y5 y6 y7 y8 y9 y10 y11) (gangsawref42_Plan.l1 (k + 1) y0 y1 y2 y3 y4 y5 y6 y7 y8 y9 y10 y11)) ∧ (∀ y0 y1 y2 y3 y4 y5 y6 y7 y8 y9 y10 y11 y12 y13 y14 y15 y16 y17 y18, LeO (gangsawref42_Plan.j3 k y0 y1 y2 y3 y4 y5 y6 y7 y8 y9 y10 y11 y12 y13 y14 y15 y16 y17 y18) (gangsawref42_Plan.j3 (k + 1) y0 y1 y2 y3 y4 y5 y6 y7 y8 y9 y10 y11 y12 y13 y14 y15 y16 y17 y18))
  | 0 => ⟨fun _ _ _ _ _ _ _ _ _ _ _ r h => by simp [gangsawref42_Plan.j0] at h, fun _ _ _ _ _ _ _ _ _ _ _ r h => by simp [gangsawref42_Plan.l0] at h, fun _ _ _ _ _ _ _ _ _ _ _ _ r h => by simp [gangsawref42_Plan.l1] at h, fun _ _ _ _ _ _ _ _ _ _ _ _ _ _ _ _ _ _ _ r h => by simp [gangsawref42_Plan.j3] at h⟩
  | k + 1 => by
    obtain ⟨ih0, ih1, ih2, ih3⟩ := gangsawref42_Plan.mono_l k
    refine ⟨?_, ?_, ?_, ?_⟩
    · intro y0 y1 y2 y3 y4 y5 y6 y7 y8 y9 y10
      unfold gangsawref42_Plan.j0
      repeat' first
      | (with_reducible exact ih0 _ _ _ _ _ _ _ _ _ _ _)
      | (with_reducible exact ih1 _ _ _ _ _ _ _ _ _ _ _)
      | (with_reducible exact ih2 _ _ _ _ _ _ _ _ _ _ _ _)
      | (with_reducible exact ih3 _ _ _ _ _ _ _ _ _ _ _ _ _ _ _ _ _ _ _)
      | (with_reducible exact gangsawref42_Check.mono _ _ _ _ _ _ _)
      | (with_reducible exact gangsawref42_Keeps.mono _ _ _ _ _ _ _ _ _ _ _ _ _)
      | (with_reducible exact LeO.refl _)
      | (with_reducible exact LeO.none _)
      | (with_reducible refine LeO.ite ?_ ?_)
      | (with_reducible refine LeO.bind ?_ (fun _ => ?_))
      | exact ih0 _ _ _ _ _ _ _ _ _ _ _
      | exact ih1 _ _ _ _ _ _ _ _ _ _ _
      | exact ih2 _ _ _ _ _ _ _ _ _ _ _ _
      | exact ih3 _ _ _ _ _ _ _ _ _ _ _ _ _ _ _ _ _ _ _
      | exact gangsawref42_Check.mono _ _ _ _ _ _ _
      | exact gangsawref42_Keeps.mono _ _ _ _ _ _ _ _ _ _ _ _ _
      | exact LeO.none _
      | refine LeO.ite ?_ ?_
      | refine LeO.bind ?_ (fun _ => ?_)
    · intro y0 y1 y2 y3 y4 y5 y6 y7 y8 y9 y10
      unfold gangsawref42_Plan.l0
      repeat' first
      | (with_reducible exact ih0 _ _ _ _ _ _ _ _ _ _ _)
      | (with_reducible exact ih1 _ _ _ _ _ _ _ _ _ _ _)
      | (with_reducible exact ih2 _ _ _ _ _ _ _ _ _ _ _ _)
      | (with_reducible exact ih3 _ _ _ _ _ _ _ _ _ _ _ _ _ _ _ _ _ _ _)
      | (with_reducible exact gangsawref42_Check.mono _ _ _ _ _ _ _)
      | (with_reducible exact gangsawref42_Keeps.mono _ _ _ _ _ _ _ _ _ _ _ _ _)
      | (with_reducible exact LeO.refl _)
      | (with_reducible exact LeO.none _)
      | (with_reducible refine LeO.ite ?_ ?_)
      | (with_reducible refine LeO.bind ?_ (fun _ => ?_))
      | exact ih0 _ _ _ _ _ _ _ _ _ _ _
      | exact ih1 _ _ _ _ _ _ _ _ _ _ _
      | exact ih2 _ _ _ _ _ _ _ _ _ _ _ _
      | exact ih3 _ _ _ _ _ _ _ _ _ _ _ _ _ _ _ _ _ _ _
      | exact gangsawref42_Check.mono _ _ _ _ _ _ _
      | exact gangsawref42_Keeps.mono _ _ _ _ _ _ _ _ _ _ _ _ _
      | exact LeO.none _
      | refine LeO.ite ?_ ?_
      | refine LeO.bind ?_ (fun _ => ?_)
    · intro y0 y1 y2 y3 y4 y5 y6 y7 y8 y9 y10 y11
      unfold gangsawref42_Plan.l1
      repeat' first
      | (with_reducible exact ih0 _ _ _ _ _ _ _ _ _ _ _)
      | (with_reducible exact ih1 _ _ _ _ _ _ _ _ _ _ _)
      | (with_reducible exact ih2 _ _ _ _ _ _ _ _ _ _ _ _)
      | (with_reducible exact ih3 _ _ _ _ _ _ _ _ _ _ _ _ _ _ _ _ _ _ _)
      | (with_reducible exact gangsawref42_Check.mono _ _ _ _ _ _ _)
      | (with_reducible exact gangsawref42_Keeps.mono _ _ _ _ _ _ _ _ _ _ _ _ _)
      | (with_reducible exact LeO.refl _)
      | (with_reducible exact LeO.none _)
      | (with_reducible refine LeO.ite ?_ ?_)
      | (with_reducible refine LeO.bind ?_ (fun _ => ?_))
      | exact ih0 _ _ _ _ _ _ _ _ _ _ _
      | exact ih1 _ _ _ _ _ _ _ _ _ _ _
      | exact ih2 _ _ _ _ _ _ _ _ _ _ _ _
      | exact ih3 _ _ _ _ _ _ _ _ _ _ _ _ _ _ _ _ _ _ _
      | exact gangsawref42_Check.mono _ _ _ _ _ _ _
      | exact gangsawref42_Keeps.mono _ _ _ _ _ _ _ _ _ _ _ _ _
      | exact LeO.none _
      | refine LeO.ite ?_ ?_
      | refine LeO.bind ?_ (fun _ => ?_)
    · intro y0 y1 y2 y3 y4 y5 y6 y7 y8 y9 y10 y11 y12 y13 y14 y15 y16 y17 y18
      unfold gangsawref42_Plan.j3
      repeat' first
      | (with_reducible exact ih0 _ _ _ _ _ _ _ _ _ _ _)
      | (with_reducible exact ih1 _ _ _ _ _ _ _ _ _ _ _)
      | (with_reducible exact ih2 _ _ _ _ _ _ _ _ _ _ _ _)
      | (with_reducible exact ih3 _ _ _ _ _ _ _ _ _ _ _ _ _ _ _ _ _ _ _)
      | (with_reducible exact gangsawref42_Check.mono _ _ _ _ _ _ _)
      | (with_reducible exact gangsawref42_Keeps.mono _ _ _ _ _ _ _ _ _ _ _ _ _)
      | (with_reducible exact LeO.refl _)
      | (with_reducible exact LeO.none _)
      | (with_reducible refine LeO.ite ?_ ?_)
      | (with_reducible refine LeO.bind ?_ (fun _ => ?_))
      | exact ih0 _ _ _ _ _ _ _ _ _ _ _
      | exact ih1 _ _ _ _ _ _ _ _ _ _ _
      | exact ih2 _ _ _ _ _ _ _ _ _ _ _ _
      | exact ih3 _ _ _ _ _ _ _ _ _ _ _ _ _ _ _ _ _ _ _
      | exact gangsawref42_Check.mono _ _ _ _ _ _ _
      | exact gangsawref42_Keeps.mono _ _ _ _ _ _ _ _ _ _ _ _ _
      | exact LeO.none _
      | refine LeO.ite ?_ ?_
      | refine LeO.bind ?_ (fun _ => ?_)
theorem gangsawref42_Plan.mono : ∀ a0 a1 a2 a3 a4 a5 a6 a7 a8 a9 k, LeO (gangsawref42_Plan.f k a0 a1 a2 a3 a4 a5 a6 a7 a8 a9) (gangsawref42_Plan.f (k + 1) a0 a1 a2 a3 a4 a5 a6 a7 a8 a9) := by
  intro a0 a1 a2 a3 a4 a5 a6 a7 a8 a9 k
  obtain ⟨ih0, ih1, ih2, ih3⟩ := gangsawref42_Plan.mono_l k
  unfold gangsawref42_Plan.f
  repeat' first
      | (with_reducible exact ih0 _ _ _ _ _ _ _ _ _ _ _)
      | (with_reducible exact ih1 _ _ _ _ _ _ _ _ _ _ _)
      | (with_reducible exact ih2 _ _ _ _ _ _ _ _ _ _ _ _)
      | (with_reducible exact ih3 _ _ _ _ _ _ _ _ _ _ _ _ _ _ _ _ _ _ _)
      | (with_reducible exact gangsawref42_Check.mono _ _ _ _ _ _ _)
      | (with_reducible exact gangsawref42_Keeps.mono _ _ _ _ _ _ _ _ _ _ _ _ _)
      | (with_reducible exact LeO.refl _)
      | (with_reducible exact LeO.none _)
      | (with_reducible refine LeO.ite ?_ ?_)
      | (with_reducible refine LeO.bind ?_ (fun _ => ?_))
      | exact ih0 _ _ _ _ _ _ _ _ _ _ _
      | exact ih1 _ _ _ _ _ _ _ _ _ _ _
      | exact ih2 _ _ _ _ _ _ _ _ _ _ _ _
      | exact ih3 _ _ _ _ _ _ _ _ _ _ _ _ _ _ _ _ _ _ _
      | exact gangsawref42_Check.mono _ _ _ _ _ _ _
      | exact gangsawref42_Keeps.mono _ _ _ _ _ _ _ _ _ _ _ _ _
      | exact LeO.none _
      | refine LeO.ite ?_ ?_
      | refine LeO.bind ?_ (fun _ => ?_)
def gangsawref42_Plan.T9 : Bool × List (List Nat × List Nat) := (true, [([], []), ([], []), ([0, 1], [0, 1]), ([], []), ([3], [3]), ([4], [4]), ([2, 5], [2, 5]), ([6, 0, 1, 2, 3, 4, 5, 6], [6])])
def gangsawref42_Plan.B9 : List Nat := [0, 0, 3, 0, 8, 24, 63, 127]
theorem gangsawref42_Plan.tab9 : rtab .any (opsOf Try.f21 9) = gangsawref42_Plan.T9 := by kernel_rfl
theorem gangsawref42_Plan.bits9 : waitsOk gangsawref42_Plan.T9.2 gangsawref42_Plan.B9 = true := by kernel_rfl
def gangsawref42_Plan.T12 : Bool × List (List Nat × List Nat) := (true, [([], []), ([], []), ([], []), ([1, 2], [1, 2]), ([], []), ([], []), ([4, 5], [4, 5]), ([], []), ([], []), ([], []), ([0, 3, 6, 7, 8, 9], [0, 3, 6, 7, 8, 9]), ([], []), ([11, 10, 0, 1, 2, 3, 4, 5, 6, 7, 8, 9, 10, 11], [10, 11])])
def gangsawref42_Plan.B12 : List Nat := [0, 0, 0, 6, 0, 0, 48, 0, 0, 0, 1023, 0, 4095]
theorem gangsawref42_Plan.tab12 : rtab .any (opsOf Try.f21 12) = gangsawref42_Plan.T12 := by kernel_rfl
theorem gangsawref42_Plan.bits12 : waitsOk gangsawref42_Plan.T12.2 gangsawref42_Plan.B12 = true := by kernel_rfl
set_option maxHeartbeats 8000000 in
set_option maxRecDepth 100000 in
theorem gangsawref42_Plan.calls (k : Nat) (a0_0 : Int) (a0_1 : Int) (a0_2 : Int) (a0_3 : Int) (a0_4 : Int) (a0_5 : Int) (a1 : Int) (a2 : Int) (a3 : Int) (a4 : Int) (r1 : Int) (r2 : Int) (r3 : Int) (r4 : Int) (r5 : Int) (r6 : Int) (r7 : Int) (w : World) (h : gangsawref42_Plan.f k a0_0 a0_1 a0_2 a0_3 a0_4 a0_5 a1 a2 a3 a4 = some (r1, r2, r3, r4, r5, r6, r7)) :
    Calls Try.prog 21 #[.agg #[.int .i64 a0_0, .int .i64 a0_1, .int .i64 a0_2, .int .i64 a0_3, .int .i64 a0_4, .int .i64 a0_5], .int .i64 a1, .int .i64 a2, .int .i64 a3, .int .i64 a4] w fun e w' => e = .returned (.tuple #[.agg #[.int .i64 r1, .int .i64 r2, .int .i64 r3, .int .i64 r4, .int .i64 r5, .int .i64 r6], .int .i64 r7]) ∧ Below w.heap.size w w' := by
  have hu25 := Try.underlying25
  have hu27 := Try.underlying27
  have HB := Aside0.mk (Below.refl w.heap.size w)
  have H : ((gangsawref42_Check.f k a0_0 a0_1 a0_2 a0_3 a0_4 a0_5).bind fun t261 => (if t261 = 0 then ((gangsawref42_in.f a1 1 640000).bind fun t262 => (if t262 = true then ((gangsawref42_in.f a2 1 640000).bind fun t263 => (if t263 = true then ((gangsawref42_in.f a3 1 10000).bind fun t264 => (if t264 = true then ((gangsawref42_in.f a4 0 1000).bind fun t265 => (gangsawref42_Plan.j0 k a1 a2 a3 a4 (!t265) a0_0 a0_1 a0_2 a0_3 a0_4 a0_5)) else (gangsawref42_Plan.j0 k a1 a2 a3 a4 true a0_0 a0_1 a0_2 a0_3 a0_4 a0_5))) else (gangsawref42_Plan.j0 k a1 a2 a3 a4 true a0_0 a0_1 a0_2 a0_3 a0_4 a0_5))) else (gangsawref42_Plan.j0 k a1 a2 a3 a4 true a0_0 a0_1 a0_2 a0_3 a0_4 a0_5))) else (some (0, 0, 0, 0, 0, 0, t261)))) = some (r1, r2, r3, r4, r5, r6, r7) := h
  clear h
  replace H := Option.bind_eq_some_iff.mp H
  obtain ⟨t261, A60, H⟩ := H
  replace H : (if t261 = 0 then ((gangsawref42_in.f a1 1 640000).bind fun t262 => (if t262 = true then ((gangsawref42_in.f a2 1 640000).bind fun t263 => (if t263 = true then ((gangsawref42_in.f a3 1 10000).bind fun t264 => (if t264 = true then ((gangsawref42_in.f a4 0 1000).bind fun t265 => (gangsawref42_Plan.j0 k a1 a2 a3 a4 (!t265) a0_0 a0_1 a0_2 a0_3 a0_4 a0_5)) else (gangsawref42_Plan.j0 k a1 a2 a3 a4 true a0_0 a0_1 a0_2 a0_3 a0_4 a0_5))) else (gangsawref42_Plan.j0 k a1 a2 a3 a4 true a0_0 a0_1 a0_2 a0_3 a0_4 a0_5))) else (gangsawref42_Plan.j0 k a1 a2 a3 a4 true a0_0 a0_1 a0_2 a0_3 a0_4 a0_5))) else (some (0, 0, 0, 0, 0, 0, t261))) = some (r1, r2, r3, r4, r5, r6, r7) := H
  have A6 := Aside0.mk A60
  clear A60
  by_cases c7 : t261 = 0
  · rw [if_pos c7] at H
    have c7b0 : (t261 == 0) = true := beq_iff_eq.mpr c7
    have c7b1 : (t261 != 0) = false := bne_eq_false_iff_eq.mpr c7
    clear c7
    have HC8 := Aside0.mk H
    clear H
    go_enter Try.func21, Try.ntmps21
    go_upto_region 4 with (first | ((with_reducible refine gate_dst (N := 5) rfl ?_); refine box_event ?hg (N := 5) ?hd (cs := #[.int .i64 a0_0, .int .i64 a0_1, .int .i64 a0_2, .int .i64 a0_3, .int .i64 a0_4, .int .i64 a0_5]) (t := 25) ?hr ?_; (case hd => rfl); (case hg => rfl); (case hr => first | (go_simp; done) | (go_simp; rfl)); intro gb259 hg w9 hbox hb; have n0_ := Aside0.mk (below_step (by repeat (first | (with_reducible first | exact HB.out | apply below_alloc | apply pw_below_drewN | apply below_drew1) | exact HB.out)) hb); have n1_ := Aside0.mk (hbox); have n2_ := Aside0.mk ((by rw [hg]; exact (below_size (by repeat (first | (with_reducible first | exact HB.out | apply below_alloc | apply pw_below_drewN | apply below_drew1) | exact HB.out))) : w.heap.size ≤ gb259)); have n3_ := Aside0.mk ((by rw [hg]; exact (below_size (by repeat (first | (with_reducible first | exact HB.out | apply below_alloc | apply pw_below_drewN | apply below_drew1) | exact HB.out))) : w.heap.size ≤ gb259)); clear HB; have HB := n0_; have BK259 := n1_; have GW259 := n2_; have GE259 := n3_; clear n0_ n1_ n2_ n3_; clear hb hbox hg) | ((with_reducible refine gate_dst (N := 10) rfl ?_); refine box_event ?hg (N := 10) ?hd (cs := #[.int .i64 0, .int .i64 0, .int .i64 0, .int .i64 0, .int .i64 0, .int .i64 0]) (t := 27) ?hr ?_; (case hd => rfl); (case hg => rfl); (case hr => first | (go_simp; done) | (go_simp; rfl)); intro gb260 hg w10 hbox hb; have n0_ := Aside0.mk (blk_below (g := gb259) (o := .cells #[.int .i64 a0_0, .int .i64 a0_1, .int .i64 a0_2, .int .i64 a0_3, .int .i64 a0_4, .int .i64 a0_5] 25 (0, 0)) (by (with_reducible repeat (first | refine blk_drewN ?_ _ | refine blk_drew ?_ | refine blk_alloc ?_ _)); exact BK259.out) hb); have n1_ := Aside0.mk (below_step (by repeat (first | (with_reducible first | exact HB.out | apply below_alloc | apply pw_below_drewN | apply below_drew1 | refine below_set ?_ GE259.out) | exact HB.out)) hb); have n2_ := Aside0.mk (hbox); have n3_ := Aside0.mk ((by rw [hg]; exact (below_size (by repeat (first | (with_reducible first | exact HB.out | apply below_alloc | apply pw_below_drewN | apply below_drew1 | refine below_set ?_ GE259.out) | exact HB.out))) : w.heap.size ≤ gb260)); have n4_ := Aside0.mk ((by rw [hg]; exact (below_size (by repeat (first | (with_reducible first | exact HB.out | apply below_alloc | apply pw_below_drewN | apply below_drew1 | refine below_set ?_ GE259.out) | exact HB.out))) : w.heap.size ≤ gb260)); have n5_ := Aside0.mk ((by rw [hg]; exact Nat.ne_of_lt (blk_lt (g := gb259) (o := .cells #[.int .i64 a0_0, .int .i64 a0_1, .int .i64 a0_2, .int .i64 a0_3, .int .i64 a0_4, .int .i64 a0_5] 25 (0, 0)) (by (with_reducible repeat (first | refine blk_drewN ?_ _ | refine blk_drew ?_ | refine blk_alloc ?_ _)); exact BK259.out)) : gb259 ≠ gb260)); have n6_ := Aside0.mk ((by rw [hg]; exact Nat.ne_of_gt (blk_lt (g := gb259) (o := .cells #[.int .i64 a0_0, .int .i64 a0_1, .int .i64 a0_2, .int .i64 a0_3, .int .i64 a0_4, .int .i64 a0_5] 25 (0, 0)) (by (with_reducible repeat (first | refine blk_drewN ?_ _ | refine blk_drew ?_ | refine blk_alloc ?_ _)); exact BK259.out)) : gb260 ≠ gb259)); clear BK259; clear HB; have BK259 := n0_; have HB := n1_; have BK260 := n2_; have GW260 := n3_; have GE260 := n4_; have NB259_260 := n5_; have NB260_259 := n6_; clear n0_ n1_ n2_ n3_ n4_ n5_ n6_; clear hb hbox hg; have hnb11 := NB259_260.out; have hnc11 := NB260_259.out; have hcz12_0 : w10.cell? ⟨gb259, 0, none⟩ = some (.int .i64 a0_0) := (blk_cell BK259.out 0).trans rfl; have hcz12_1 : w10.cell? ⟨gb259, 1, none⟩ = some (.int .i64 a0_1) := (blk_cell BK259.out 1).trans rfl; have hcz12_2 : w10.cell? ⟨gb259, 2, none⟩ = some (.int .i64 a0_2) := (blk_cell BK259.out 2).trans rfl; have hcz12_3 : w10.cell? ⟨gb259, 3, none⟩ = some (.int .i64 a0_3) := (blk_cell BK259.out 3).trans rfl; have hcz12_4 : w10.cell? ⟨gb259, 4, none⟩ = some (.int .i64 a0_4) := (blk_cell BK259.out 4).trans rfl; have hcz12_5 : w10.cell? ⟨gb259, 5, none⟩ = some (.int .i64 a0_5) := (blk_cell BK259.out 5).trans rfl; have hfz12_0 := blk_frozen BK259.out 0; have hfz12_1 := blk_frozen BK259.out 1; have hfz12_2 := blk_frozen BK259.out 2; have hfz12_3 := blk_frozen BK259.out 3; have hfz12_4 := blk_frozen BK259.out 4; have hfz12_5 := blk_frozen BK259.out 5) | ((with_reducible refine gate_callee (f := 13) rfl ?_); refine goesL_ (some 17) rfl rfl Try.func13 (by kernel_rfl) rfl #[.agg #[.int .i64 a0_0, .int .i64 a0_1, .int .i64 a0_2, .int .i64 a0_3, .int .i64 a0_4, .int .i64 a0_5]] rfl (by (try simp only [List.map_toArray, List.map_cons, List.map_nil]); first | done | rfl | (simp only [List.length_drop, List.length_take]; rfl)) ?_; (with_reducible refine (gangsawref42_Check.calls k a0_0 a0_1 a0_2 a0_3 a0_4 a0_5 t261 _ A6.out).mono ?_); rintro e w13 ⟨rfl, hb⟩; refine ⟨_, rfl, ?_⟩; have n0_ := Aside0.mk (blk_below (g := gb259) (o := .cells #[.int .i64 a0_0, .int .i64 a0_1, .int .i64 a0_2, .int .i64 a0_3, .int .i64 a0_4, .int .i64 a0_5] 25 (0, 0)) (by (with_reducible repeat (first | refine blk_drewN ?_ _ | refine blk_drew ?_ | refine blk_alloc ?_ _)); exact BK259.out) hb); have n1_ := Aside0.mk (blk_below (g := gb260) (o := .cells #[.int .i64 0, .int .i64 0, .int .i64 0, .int .i64 0, .int .i64 0, .int .i64 0] 27 (0, 0)) (by (with_reducible repeat (first | refine blk_drewN ?_ _ | refine blk_drew ?_ | refine blk_alloc ?_ _)); exact BK260.out) hb); have n2_ := Aside0.mk (below_step (by repeat (first | (with_reducible first | exact HB.out | apply below_alloc | apply pw_below_drewN | apply below_drew1 | refine below_set ?_ GE259.out | refine below_set ?_ GE260.out) | exact HB.out)) hb); clear BK259; clear BK260; clear HB; have BK259 := n0_; have BK260 := n1_; have HB := n2_; clear n0_ n1_ n2_; (try clear hb); (try clear hb2); (try clear hk); (try clear hi)))
    (try simp only [Act.put, List.setIfInBounds_toArray, List.set_cons_zero, List.set_cons_succ])
    go_cut [39] (fun v39 wc => ∃ (kq : Nat) (x39_7 : Bool), v39 = .bool x39_7 ∧ Aside0 (gangsawref42_Plan.j0 kq a1 a2 a3 a4 x39_7 a0_0 a0_1 a0_2 a0_3 a0_4 a0_5 = some (r1, r2, r3, r4, r5, r6, r7)) ∧ Aside0 (kq ≤ k) ∧ Aside0 (wc.heap[gb259]? = some (.cells #[.int .i64 a0_0, .int .i64 a0_1, .int .i64 a0_2, .int .i64 a0_3, .int .i64 a0_4, .int .i64 a0_5] 25 (0, 0))) ∧ Aside0 (wc.heap[gb260]? = some (.cells #[.int .i64 0, .int .i64 0, .int .i64 0, .int .i64 0, .int .i64 0, .int .i64 0] 27 (0, 0))) ∧ Aside0 (Below w.heap.size w wc))
    case first =>
      have H := HC8.out
      clear HC8
      replace H := Option.bind_eq_some_iff.mp H
      obtain ⟨t262, A140, H⟩ := H
      replace H : (if t262 = true then ((gangsawref42_in.f a2 1 640000).bind fun t263 => (if t263 = true then ((gangsawref42_in.f a3 1 10000).bind fun t264 => (if t264 = true then ((gangsawref42_in.f a4 0 1000).bind fun t265 => (gangsawref42_Plan.j0 k a1 a2 a3 a4 (!t265) a0_0 a0_1 a0_2 a0_3 a0_4 a0_5)) else (gangsawref42_Plan.j0 k a1 a2 a3 a4 true a0_0 a0_1 a0_2 a0_3 a0_4 a0_5))) else (gangsawref42_Plan.j0 k a1 a2 a3 a4 true a0_0 a0_1 a0_2 a0_3 a0_4 a0_5))) else (gangsawref42_Plan.j0 k a1 a2 a3 a4 true a0_0 a0_1 a0_2 a0_3 a0_4 a0_5)) = some (r1, r2, r3, r4, r5, r6, r7) := H
      have A14 := Aside0.mk A140
      clear A140
      by_cases c15 : t262 = true
      · subst c15
        have H1 : ((gangsawref42_in.f a2 1 640000).bind fun t263 => (if t263 = true then ((gangsawref42_in.f a3 1 10000).bind fun t264 => (if t264 = true then ((gangsawref42_in.f a4 0 1000).bind fun t265 => (gangsawref42_Plan.j0 k a1 a2 a3 a4 (!t265) a0_0 a0_1 a0_2 a0_3 a0_4 a0_5)) else (gangsawref42_Plan.j0 k a1 a2 a3 a4 true a0_0 a0_1 a0_2 a0_3 a0_4 a0_5))) else (gangsawref42_Plan.j0 k a1 a2 a3 a4 true a0_0 a0_1 a0_2 a0_3 a0_4 a0_5))) = some (r1, r2, r3, r4, r5, r6, r7) := by rw [if_pos rfl] at H; exact H
        clear H
        have H := H1
        clear H1
        replace H := Option.bind_eq_some_iff.mp H
        obtain ⟨t263, A160, H⟩ := H
        replace H : (if t263 = true then ((gangsawref42_in.f a3 1 10000).bind fun t264 => (if t264 = true then ((gangsawref42_in.f a4 0 1000).bind fun t265 => (gangsawref42_Plan.j0 k a1 a2 a3 a4 (!t265) a0_0 a0_1 a0_2 a0_3 a0_4 a0_5)) else (gangsawref42_Plan.j0 k a1 a2 a3 a4 true a0_0 a0_1 a0_2 a0_3 a0_4 a0_5))) else (gangsawref42_Plan.j0 k a1 a2 a3 a4 true a0_0 a0_1 a0_2 a0_3 a0_4 a0_5)) = some (r1, r2, r3, r4, r5, r6, r7) := H
        have A16 := Aside0.mk A160
        clear A160
        by_cases c17 : t263 = true
        · subst c17
          have H1 : ((gangsawref42_in.f a3 1 10000).bind fun t264 => (if t264 = true then ((gangsawref42_in.f a4 0 1000).bind fun t265 => (gangsawref42_Plan.j0 k a1 a2 a3 a4 (!t265) a0_0 a0_1 a0_2 a0_3 a0_4 a0_5)) else (gangsawref42_Plan.j0 k a1 a2 a3 a4 true a0_0 a0_1 a0_2 a0_3 a0_4 a0_5))) = some (r1, r2, r3, r4, r5, r6, r7) := by rw [if_pos rfl] at H; exact H
          clear H
          have H := H1
          clear H1
          replace H := Option.bind_eq_some_iff.mp H
          obtain ⟨t264, A180, H⟩ := H
          replace H : (if t264 = true then ((gangsawref42_in.f a4 0 1000).bind fun t265 => (gangsawref42_Plan.j0 k a1 a2 a3 a4 (!t265) a0_0 a0_1 a0_2 a0_3 a0_4 a0_5)) else (gangsawref42_Plan.j0 k a1 a2 a3 a4 true a0_0 a0_1 a0_2 a0_3 a0_4 a0_5)) = some (r1, r2, r3, r4, r5, r6, r7) := H
          have A18 := Aside0.mk A180
          clear A180
          by_cases c19 : t264 = true
          · subst c19
            have H1 : ((gangsawref42_in.f a4 0 1000).bind fun t265 => (gangsawref42_Plan.j0 k a1 a2 a3 a4 (!t265) a0_0 a0_1 a0_2 a0_3 a0_4 a0_5)) = some (r1, r2, r3, r4, r5, r6, r7) := by rw [if_pos rfl] at H; exact H
            clear H
            have H := H1
            clear H1
            replace H := Option.bind_eq_some_iff.mp H
            obtain ⟨t265, A200, H⟩ := H
            replace H : (gangsawref42_Plan.j0 k a1 a2 a3 a4 (!t265) a0_0 a0_1 a0_2 a0_3 a0_4 a0_5) = some (r1, r2, r3, r4, r5, r6, r7) := H
            have A20 := Aside0.mk A200
            clear A200
            have H' := Aside0.mk H
            clear H
            go_wp2_with (first | ((with_reducible refine gate_callee (f := 32) rfl ?_); refine goesL_ (some 23) rfl rfl Try.func32 (by kernel_rfl) rfl #[.int .i64 a1, .int .i64 1, .int .i64 640000] rfl (by (try simp only [List.map_toArray, List.map_cons, List.map_nil]); first | done | rfl | (simp only [List.length_drop, List.length_take]; rfl)) ?_; (with_reducible refine (gangsawref42_in.calls a1 1 640000 true _ A14.out).mono ?_); rintro e w' ⟨rfl, ⟨nd, rfl⟩⟩; refine ⟨_, rfl, ?_⟩) | (go_at_call 32; (with_reducible refine (gangsawref42_in.calls a2 1 640000 true _ A16.out).mono ?_); rintro e w' ⟨rfl, ⟨nd, rfl⟩⟩) | (go_at_call 32; (with_reducible refine (gangsawref42_in.calls a3 1 10000 true _ A18.out).mono ?_); rintro e w' ⟨rfl, ⟨nd, rfl⟩⟩) | (go_at_call 32; (with_reducible refine (gangsawref42_in.calls a4 0 1000 t265 _ A20.out).mono ?_); rintro e w' ⟨rfl, ⟨nd, rfl⟩⟩))
            go_meet
            case rel => exact ⟨_, (!t265), (by first | rfl | (simp; done) | (simp [*]; done)), H', ⟨by first | omega | exact Nat.le_refl _⟩, ⟨by (with_reducible repeat (first | refine blk_drewN ?_ _ | refine blk_drew ?_ | refine blk_alloc ?_ _)); exact BK259.out⟩, ⟨by (with_reducible repeat (first | refine blk_drewN ?_ _ | refine blk_drew ?_ | refine blk_alloc ?_ _)); exact BK260.out⟩, ⟨by repeat (first | (with_reducible first | exact HB.out | apply below_alloc | apply pw_below_drewN | apply below_drew1 | refine below_set ?_ GE259.out | refine below_set ?_ GE260.out) | exact HB.out)⟩⟩
          · replace c19 := Bool.eq_false_iff.mpr c19
            subst c19
            have H1 : (gangsawref42_Plan.j0 k a1 a2 a3 a4 true a0_0 a0_1 a0_2 a0_3 a0_4 a0_5) = some (r1, r2, r3, r4, r5, r6, r7) := by rw [if_neg (show ¬ (false = true) by decide)] at H; exact H
            clear H
            have H := H1
            clear H1
            have H' := Aside0.mk H
            clear H
            go_wp2_with (first | ((with_reducible refine gate_callee (f := 32) rfl ?_); refine goesL_ (some 23) rfl rfl Try.func32 (by kernel_rfl) rfl #[.int .i64 a1, .int .i64 1, .int .i64 640000] rfl (by (try simp only [List.map_toArray, List.map_cons, List.map_nil]); first | done | rfl | (simp only [List.length_drop, List.length_take]; rfl)) ?_; (with_reducible refine (gangsawref42_in.calls a1 1 640000 true _ A14.out).mono ?_); rintro e w' ⟨rfl, ⟨nd, rfl⟩⟩; refine ⟨_, rfl, ?_⟩) | (go_at_call 32; (with_reducible refine (gangsawref42_in.calls a2 1 640000 true _ A16.out).mono ?_); rintro e w' ⟨rfl, ⟨nd, rfl⟩⟩) | (go_at_call 32; (with_reducible refine (gangsawref42_in.calls a3 1 10000 false _ A18.out).mono ?_); rintro e w' ⟨rfl, ⟨nd, rfl⟩⟩))
            go_meet
            case rel => exact ⟨_, (true), (by first | rfl | (simp; done) | (simp [*]; done)), H', ⟨by first | omega | exact Nat.le_refl _⟩, ⟨by (with_reducible repeat (first | refine blk_drewN ?_ _ | refine blk_drew ?_ | refine blk_alloc ?_ _)); exact BK259.out⟩, ⟨by (with_reducible repeat (first | refine blk_drewN ?_ _ | refine blk_drew ?_ | refine blk_alloc ?_ _)); exact BK260.out⟩, ⟨by repeat (first | (with_reducible first | exact HB.out | apply below_alloc | apply pw_below_drewN | apply below_drew1 | refine below_set ?_ GE259.out | refine below_set ?_ GE260.out) | exact HB.out)⟩⟩
        · replace c17 := Bool.eq_false_iff.mpr c17
          subst c17
          have H1 : (gangsawref42_Plan.j0 k a1 a2 a3 a4 true a0_0 a0_1 a0_2 a0_3 a0_4 a0_5) = some (r1, r2, r3, r4, r5, r6, r7) := by rw [if_neg (show ¬ (false = true) by decide)] at H; exact H
          clear H
          have H := H1
          clear H1
          have H' := Aside0.mk H
          clear H
          go_wp2_with (first | ((with_reducible refine gate_callee (f := 32) rfl ?_); refine goesL_ (some 23) rfl rfl Try.func32 (by kernel_rfl) rfl #[.int .i64 a1, .int .i64 1, .int .i64 640000] rfl (by (try simp only [List.map_toArray, List.map_cons, List.map_nil]); first | done | rfl | (simp only [List.length_drop, List.length_take]; rfl)) ?_; (with_reducible refine (gangsawref42_in.calls a1 1 640000 true _ A14.out).mono ?_); rintro e w' ⟨rfl, ⟨nd, rfl⟩⟩; refine ⟨_, rfl, ?_⟩) | (go_at_call 32; (with_reducible refine (gangsawref42_in.calls a2 1 640000 false _ A16.out).mono ?_); rintro e w' ⟨rfl, ⟨nd, rfl⟩⟩))
          go_meet
          case rel => exact ⟨_, (true), (by first | rfl | (simp; done) | (simp [*]; done)), H', ⟨by first | omega | exact Nat.le_refl _⟩, ⟨by (with_reducible repeat (first | refine blk_drewN ?_ _ | refine blk_drew ?_ | refine blk_alloc ?_ _)); exact BK259.out⟩, ⟨by (with_reducible repeat (first | refine blk_drewN ?_ _ | refine blk_drew ?_ | refine blk_alloc ?_ _)); exact BK260.out⟩, ⟨by repeat (first | (with_reducible first | exact HB.out | apply below_alloc | apply pw_below_drewN | apply below_drew1 | refine below_set ?_ GE259.out | refine below_set ?_ GE260.out) | exact HB.out)⟩⟩
      · replace c15 := Bool.eq_false_iff.mpr c15
        subst c15
        have H1 : (gangsawref42_Plan.j0 k a1 a2 a3 a4 true a0_0 a0_1 a0_2 a0_3 a0_4 a0_5) = some (r1, r2, r3, r4, r5, r6, r7) := by rw [if_neg (show ¬ (false = true) by decide)] at H; exact H
        clear H
        have H := H1
        clear H1
        have H' := Aside0.mk H
        clear H
        go_wp2_with (first | ((with_reducible refine gate_callee (f := 32) rfl ?_); refine goesL_ (some 23) rfl rfl Try.func32 (by kernel_rfl) rfl #[.int .i64 a1, .int .i64 1, .int .i64 640000] rfl (by (try simp only [List.map_toArray, List.map_cons, List.map_nil]); first | done | rfl | (simp only [List.length_drop, List.length_take]; rfl)) ?_; (with_reducible refine (gangsawref42_in.calls a1 1 640000 false _ A14.out).mono ?_); rintro e w' ⟨rfl, ⟨nd, rfl⟩⟩; refine ⟨_, rfl, ?_⟩))
        go_meet
        case rel => exact ⟨_, (true), (by first | rfl | (simp; done) | (simp [*]; done)), H', ⟨by first | omega | exact Nat.le_refl _⟩, ⟨by (with_reducible repeat (first | refine blk_drewN ?_ _ | refine blk_drew ?_ | refine blk_alloc ?_ _)); exact BK259.out⟩, ⟨by (with_reducible repeat (first | refine blk_drewN ?_ _ | refine blk_drew ?_ | refine blk_alloc ?_ _)); exact BK260.out⟩, ⟨by repeat (first | (with_reducible first | exact HB.out | apply below_alloc | apply pw_below_drewN | apply below_drew1 | refine below_set ?_ GE259.out | refine below_set ?_ GE260.out) | exact HB.out)⟩⟩
    case rest =>
      clear HC8
      try clear c1
      try clear c2
      try clear p2
      try clear c3
      try clear c7
      try clear c7b0
      try clear c7b1
      try clear c11
      try clear c13
      try clear c15
      try clear c17
      try clear c19
      try clear hcz12_0
      try clear hcz12_1
      try clear hcz12_2
      try clear hcz12_3
      try clear hcz12_4
      try clear hcz12_5
      try clear hfz12_0
      try clear hfz12_1
      try clear hfz12_2
      try clear hfz12_3
      try clear hfz12_4
      try clear hfz12_5
      obtain ⟨kq, x39_7, rfl, HA, HJ7, BK259, BK260, HB⟩ := hcut
      cases kq with
      | zero => exact absurd HA.out (by simp [gangsawref42_Plan.j0])
      | succ kj7 =>
        have H := HA.out
        clear HA
        simp only [gangsawref42_Plan.j0] at H
        by_cases c21 : x39_7 = true
        · subst c21
          have H1 : (some (0, 0, 0, 0, 0, 0, 6)) = some (r1, r2, r3, r4, r5, r6, r7) := by rw [if_pos rfl] at H; exact H
          clear H
          have H := H1
          clear H1
          simp only [Option.some.injEq, Prod.mk.injEq] at H
          obtain ⟨rfl, rfl, rfl, rfl, rfl, rfl, rfl⟩ := H
          have hnb22 := NB260_259.out
          have hnc22 := NB259_260.out
          have hcz23_0 : wc.cell? ⟨gb260, 0, none⟩ = some (.int .i64 0) := (blk_cell BK260.out 0).trans rfl
          have hcz23_1 : wc.cell? ⟨gb260, 1, none⟩ = some (.int .i64 0) := (blk_cell BK260.out 1).trans rfl
          have hcz23_2 : wc.cell? ⟨gb260, 2, none⟩ = some (.int .i64 0) := (blk_cell BK260.out 2).trans rfl
          have hcz23_3 : wc.cell? ⟨gb260, 3, none⟩ = some (.int .i64 0) := (blk_cell BK260.out 3).trans rfl
          have hcz23_4 : wc.cell? ⟨gb260, 4, none⟩ = some (.int .i64 0) := (blk_cell BK260.out 4).trans rfl
          have hcz23_5 : wc.cell? ⟨gb260, 5, none⟩ = some (.int .i64 0) := (blk_cell BK260.out 5).trans rfl
          have hfz23_0 := blk_frozen BK260.out 0
          have hfz23_1 := blk_frozen BK260.out 1
          have hfz23_2 := blk_frozen BK260.out 2
          have hfz23_3 := blk_frozen BK260.out 3
          have hfz23_4 := blk_frozen BK260.out 4
          have hfz23_5 := blk_frozen BK260.out 5
          go_wp2
          refine bodyPost_ret (results_ct rfl _ _ gb260 27 #[.int .i64 0, .int .i64 0, .int .i64 0, .int .i64 0, .int .i64 0, .int .i64 0] (0, 0) _ rfl (by (with_reducible repeat (first | refine blk_drewN ?_ _ | refine blk_drew ?_ | refine blk_alloc ?_ _)); refine blk_put (cs := #[.int .i64 0, .int .i64 0, .int .i64 0, .int .i64 0, .int .i64 0, .int .i64 0]) ?_ 5 _ rfl; (with_reducible repeat (first | refine blk_drewN ?_ _ | refine blk_drew ?_ | refine blk_alloc ?_ _)); refine blk_put (cs := #[.int .i64 0, .int .i64 0, .int .i64 0, .int .i64 0, .int .i64 0, .int .i64 0]) ?_ 4 _ rfl; (with_reducible repeat (first | refine blk_drewN ?_ _ | refine blk_drew ?_ | refine blk_alloc ?_ _)); refine blk_put (cs := #[.int .i64 0, .int .i64 0, .int .i64 0, .int .i64 0, .int .i64 0, .int .i64 0]) ?_ 3 _ rfl; (with_reducible repeat (first | refine blk_drewN ?_ _ | refine blk_drew ?_ | refine blk_alloc ?_ _)); refine blk_put (cs := #[.int .i64 0, .int .i64 0, .int .i64 0, .int .i64 0, .int .i64 0, .int .i64 0]) ?_ 2 _ rfl; (with_reducible repeat (first | refine blk_drewN ?_ _ | refine blk_drew ?_ | refine blk_alloc ?_ _)); refine blk_put (cs := #[.int .i64 0, .int .i64 0, .int .i64 0, .int .i64 0, .int .i64 0, .int .i64 0]) ?_ 1 _ rfl; (with_reducible repeat (first | refine blk_drewN ?_ _ | refine blk_drew ?_ | refine blk_alloc ?_ _)); refine blk_put (cs := #[.int .i64 0, .int .i64 0, .int .i64 0, .int .i64 0, .int .i64 0, .int .i64 0]) ?_ 0 _ rfl; (with_reducible repeat (first | refine blk_drewN ?_ _ | refine blk_drew ?_ | refine blk_alloc ?_ _)); exact BK260.out) Try.underlying27 rfl (by kernel_rfl)) rfl ?_
          exact ⟨by first | rfl | (simp [errW_none, errW_some] <;> rfl) | (simp [*, errW_none, errW_some] <;> rfl), by repeat (first | (with_reducible first | exact HB.out | apply below_alloc | apply pw_below_drewN | apply below_drew1 | refine below_set ?_ GE259.out | refine below_set ?_ GE260.out) | exact HB.out)⟩
        · replace c21 := Bool.eq_false_iff.mpr c21
          subst c21
          have H1 : (gangsawref42_Plan.l0 kj7 a1 a2 a3 a4 1 a0_0 a0_1 a0_2 a0_3 a0_4 a0_5) = some (r1, r2, r3, r4, r5, r6, r7) := by rw [if_neg (show ¬ (false = true) by decide)] at H; exact H
          clear H
          have H := H1
          clear H1
          have H' := Aside0.mk H
          clear H
          go_wp2
          go_loopg [13] kj7 (fun kq v13 w' => ∃ (x13_2 : Int) (x261000_2 : Int) (x261001_2 : Int) (x261002_2 : Int) (x261003_2 : Int) (x261004_2 : Int) (x261005_2 : Int), v13 = .int .i64 x13_2 ∧ Aside0 (gangsawref42_Plan.l0 kq a1 a2 a3 a4 x13_2 a0_0 a0_1 a0_2 a0_3 a0_4 a0_5 = some (r1, r2, r3, r4, r5, r6, r7)) ∧ Aside0 (kq ≤ kj7) ∧ Aside0 (w'.heap[gb259]? = some (.cells #[.int .i64 a0_0, .int .i64 a0_1, .int .i64 a0_2, .int .i64 a0_3, .int .i64 a0_4, .int .i64 a0_5] 25 (0, 0))) ∧ Aside0 (w'.heap[gb260]? = some (.cells #[.int .i64 x261000_2, .int .i64 x261001_2, .int .i64 x261002_2, .int .i64 x261003_2, .int .i64 x261004_2, .int .i64 x261005_2] 27 (0, 0))) ∧ Aside0 (Below w.heap.size w w'))
          case atStart => exact ⟨(1), (0), (0), (0), (0), (0), (0), (by first | rfl | (simp; done) | (simp [*]; done)), H', ⟨Nat.le_refl _⟩, ⟨by (with_reducible repeat (first | refine blk_drewN ?_ _ | refine blk_drew ?_ | refine blk_alloc ?_ _)); exact BK259.out⟩, ⟨by (with_reducible repeat (first | refine blk_drewN ?_ _ | refine blk_drew ?_ | refine blk_alloc ?_ _)); exact BK260.out⟩, ⟨by repeat (first | (with_reducible first | exact HB.out | apply below_alloc | apply pw_below_drewN | apply below_drew1 | refine below_set ?_ GE259.out | refine below_set ?_ GE260.out) | exact HB.out)⟩⟩
          case round =>
            clear H'
            try clear c1
            try clear c2
            try clear p2
            try clear c3
            try clear c7
            try clear c7b0
            try clear c7b1
            try clear c11
            try clear c13
            try clear c15
            try clear c17
            try clear c19
            try clear c21
            try clear c22
            try clear hcz12_0
            try clear hcz12_1
            try clear hcz12_2
            try clear hcz12_3
            try clear hcz12_4
            try clear hcz12_5
            try clear hcz23_0
            try clear hcz23_1
            try clear hcz23_2
            try clear hcz23_3
            try clear hcz23_4
            try clear hcz23_5
            try clear hfz12_0
            try clear hfz12_1
            try clear hfz12_2
            try clear hfz12_3
            try clear hfz12_4
            try clear hfz12_5
            try clear hfz23_0
            try clear hfz23_1
            try clear hfz23_2
            try clear hfz23_3
            try clear hfz23_4
            try clear hfz23_5
            try clear p2
            obtain ⟨x13_2, x261000_2, x261001_2, x261002_2, x261003_2, x261004_2, x261005_2, rfl, HA, HK2, BK259, BK260, HB⟩ := hrel
            cases gk with
            | zero => exact absurd HA.out (by simp [gangsawref42_Plan.l0])
            | succ k2 =>
              have H := HA.out
              clear HA
              simp only [gangsawref42_Plan.l0] at H
              by_cases c24 : x13_2 ≤ 64
              · rw [if_pos c24] at H
                have c24b0 : decide (x13_2 ≤ 64) = true := decide_eq_true c24
                clear c24
                by_cases c25 : x13_2 = 0
                · rw [if_pos c25] at H
                  exact absurd H (by simp)
                · rw [if_neg c25] at H
                  have c25b0 : (x13_2 == 0) = false := beq_eq_false_iff_ne.mpr c25
                  have c25b1 : (x13_2 != 0) = true := bne_iff_ne.mpr c25
                  obtain ⟨ji26, hji26⟩ : ∃ j_ : Int, (mn (wrap64 (Int.tdiv a2 x13_2)) a0_3) = j_ := ⟨_, rfl⟩
                  replace H : (gangsawref42_Plan.l1 k2 a1 a2 a3 a4 x13_2 ji26 a0_0 a0_1 a0_2 a0_3 a0_4 a0_5) = some (r1, r2, r3, r4, r5, r6, r7) := by first | (rw [hji26] at H; exact H) | (simp only [hji26] at H ⊢; exact H)
                  have hji26_ : (if a0_3 < (wrap64 (Int.tdiv a2 x13_2)) then a0_3 else (wrap64 (Int.tdiv a2 x13_2))) = ji26 := hji26
                  have H' := Aside0.mk H
                  clear H
                  try go_wp2
                  have n0_ := Aside0.mk (blk_drew BK259.out)
                  have n1_ := Aside0.mk (blk_drew BK260.out)
                  have n2_ := Aside0.mk (below_drew1 HB.out)
                  clear BK259
                  clear BK260
                  clear HB
                  have BK259 := n0_
                  have BK260 := n1_
                  have HB := n2_
                  clear n0_ n1_ n2_
                  refine start_ (n := 8) (S := fun w' => w'.cell? ⟨gb259, 0, none⟩ = some (.int .i64 a0_0) ∧ w'.cell? ⟨gb259, 1, none⟩ = some (.int .i64 a0_1) ∧ w'.cell? ⟨gb259, 2, none⟩ = some (.int .i64 a0_2) ∧ w'.cell? ⟨gb259, 3, none⟩ = some (.int .i64 a0_3) ∧ w'.cell? ⟨gb259, 4, none⟩ = some (.int .i64 a0_4) ∧ w'.cell? ⟨gb259, 5, none⟩ = some (.int .i64 a0_5)) (ds := []) #[false, false, false, false, false, false, false, false] (by kernel_rfl) rfl rfl ⟨(blk_cell BK259.out 0).trans rfl, (blk_cell BK259.out 1).trans rfl, (blk_cell BK259.out 2).trans rfl, (blk_cell BK259.out 3).trans rfl, (blk_cell BK259.out 4).trans rfl, (blk_cell BK259.out 5).trans rfl⟩ (fun hHeld => ?_); refine with_tabW gangsawref42_Plan.tab9 gangsawref42_Plan.bits9 (fun HT_ HW_ => ?_)
                  generalize wr.drew = w27 at BK259 BK260 HB hHeld ⊢
                  refine pure_ (i := 0) (N := some 45) (v := ?_) (a' := ?_) #[true, false, false, false, false, false, false, false] rfl rfl (any_of HT_.out (by kernel_rfl)) (fun _ _ _ h => h) (Or.inl ⟨by rfl, ?_⟩) ?_ ?_
                  rotate_left
                  · intro w'
                    go_simp
                    with_reducible rfl
                  rotate_left
                  · simp only [Act.put, List.setIfInBounds_toArray, List.set_cons_zero, List.set_cons_succ, i64_w, i32_w]
                    rfl
                  refine pure_ (i := 1) (N := some 46) (v := ?_) (a' := ?_) #[true, true, false, false, false, false, false, false] rfl rfl (any_of HT_.out (by kernel_rfl)) (fun _ _ _ h => h) (Or.inl ⟨by rfl, ?_⟩) ?_ ?_
                  rotate_left
                  · intro w'
                    go_simp
                    with_reducible rfl
                  rotate_left
                  · simp only [Act.put, List.setIfInBounds_toArray, List.set_cons_zero, List.set_cons_succ, i64_w, i32_w]
                    rfl
                  refine pure_ (i := 2) (N := some 47) (v := ?_) (a' := ?_) #[true, true, true, false, false, false, false, false] rfl rfl (any_of HT_.out (by kernel_rfl)) (fun _ _ _ h => h) (Or.inl ⟨by rfl, ?_⟩) ?_ ?_
                  rotate_left
                  · intro w'
                    go_simp
                    with_reducible rfl
                  rotate_left
                  · simp only [Act.put, List.setIfInBounds_toArray, List.set_cons_zero, List.set_cons_succ, i64_w, i32_w]
                    rfl
                  refine pure_ (i := 3) (N := some 48) (v := ?_) (a' := ?_) #[true, true, true, true, false, false, false, false] rfl rfl (any_of HT_.out (by kernel_rfl)) (fun _ _ _ h => h) (Or.inl ⟨by rfl, ?_⟩) ?_ ?_
                  rotate_left
                  · intro w'
                    go_simp
                    with_reducible rfl
                  rotate_left
                  · simp only [Act.put, List.setIfInBounds_toArray, List.set_cons_zero, List.set_cons_succ, i64_w, i32_w]
                    rfl
                  refine pure_ (i := 4) (N := some 49) (v := ?_) (a' := ?_) #[true, true, true, true, true, false, false, false] rfl rfl (any_of HT_.out (by kernel_rfl)) (fun _ _ _ h => h) (Or.inl ⟨by rfl, ?_⟩) ?_ ?_
                  rotate_left
                  · intro w'
                    go_simp
                    with_reducible rfl
                  rotate_left
                  · simp only [Act.put, List.setIfInBounds_toArray, List.set_cons_zero, List.set_cons_succ, i64_w, i32_w]
                    rfl
                  refine take_ (i := 5) (N := some 50) (v := ?_) (a' := ?_) #[true, true, true, true, true, true, false, false] rfl rfl (take_ofW HT_.out HW_.out (by kernel_rfl)) (fun _ _ _ h => h) (Or.inl ⟨by rfl, ?_⟩) hHeld ?_ ?_
                  rotate_left
                  · rintro w' ⟨s0, s1, s2, s3, s4, s5⟩
                    go_simp
                    with_reducible rfl
                  rotate_left
                  · simp only [Act.put, List.setIfInBounds_toArray, List.set_cons_zero, List.set_cons_succ, i64_w, i32_w]
                    rfl
                  refine pure_ (i := 6) (N := some 51) (v := ?_) (a' := ?_) #[true, true, true, true, true, true, true, false] rfl rfl (any_of HT_.out (by kernel_rfl)) (fun _ _ _ h => h) (Or.inl ⟨by rfl, ?_⟩) ?_ ?_
                  rotate_left
                  · intro w'
                    go_simp
                    with_reducible rfl
                  rotate_left
                  · simp only [Act.put, List.setIfInBounds_toArray, List.set_cons_zero, List.set_cons_succ, i64_w, i32_w]
                    rfl
                  refine pure_ (i := 7) (N := some 14) (v := ?_) (a' := ?_) #[true, true, true, true, true, true, true, true] rfl rfl (any_of HT_.out (by kernel_rfl)) (fun _ _ _ h => h) (Or.inl ⟨by rfl, ?_⟩) ?_ ?_
                  rotate_left
                  · intro w'
                    go_simp
                    with_reducible rfl
                  rotate_left
                  · simp only [Act.put, List.setIfInBounds_toArray, List.set_cons_zero, List.set_cons_succ, i64_w, i32_w]
                    rfl
                  refine done_ (done_of HT_.out (by kernel_rfl)) ?_
                  try go_wp2
                  go_loopg [14] k2 (fun kq v14 w' => ∃ (x14_3 : Int) (x261000_3 : Int) (x261001_3 : Int) (x261002_3 : Int) (x261003_3 : Int) (x261004_3 : Int) (x261005_3 : Int), v14 = .int .i64 x14_3 ∧ Aside0 (gangsawref42_Plan.l1 kq a1 a2 a3 a4 x13_2 x14_3 a0_0 a0_1 a0_2 a0_3 a0_4 a0_5 = some (r1, r2, r3, r4, r5, r6, r7)) ∧ Aside0 (kq ≤ k2) ∧ Aside0 (w'.heap[gb259]? = some (.cells #[.int .i64 a0_0, .int .i64 a0_1, .int .i64 a0_2, .int .i64 a0_3, .int .i64 a0_4, .int .i64 a0_5] 25 (0, 0))) ∧ Aside0 (w'.heap[gb260]? = some (.cells #[.int .i64 x261000_3, .int .i64 x261001_3, .int .i64 x261002_3, .int .i64 x261003_3, .int .i64 x261004_3, .int .i64 x261005_3] 27 (0, 0))) ∧ Aside0 (Below w.heap.size w w'))
                  case atStart => exact ⟨(ji26), (x261000_2), (x261001_2), (x261002_2), (x261003_2), (x261004_2), (x261005_2), (by first | rfl | (simp; done) | (simp only [← hji26] <;> (first | rfl | simp)) | (simp [*]; done)), H', ⟨Nat.le_refl _⟩, ⟨by (with_reducible repeat (first | refine blk_drewN ?_ _ | refine blk_drew ?_ | refine blk_alloc ?_ _)); exact BK259.out⟩, ⟨by (with_reducible repeat (first | refine blk_drewN ?_ _ | refine blk_drew ?_ | refine blk_alloc ?_ _)); exact BK260.out⟩, ⟨by repeat (first | (with_reducible first | exact HB.out | apply below_alloc | apply pw_below_drewN | apply below_drew1 | refine below_set ?_ GE259.out | refine below_set ?_ GE260.out) | exact HB.out)⟩⟩
                  case round =>
                    clear H'
                    try clear c1
                    try clear c2
                    try clear p2
                    try clear c3
                    try clear p6
                    try clear c7
                    try clear c7b0
                    try clear c7b1
                    try clear c11
                    try clear c13
                    try clear c15
                    try clear c17
                    try clear c19
                    try clear c21
                    try clear c22
                    try clear c24
                    try clear c24b0
                    try clear c25
                    try clear c25b0
                    try clear c25b1
                    try clear hcz12_0
                    try clear hcz12_1
                    try clear hcz12_2
                    try clear hcz12_3
                    try clear hcz12_4
                    try clear hcz12_5
                    try clear hcz23_0
                    try clear hcz23_1
                    try clear hcz23_2
                    try clear hcz23_3
                    try clear hcz23_4
                    try clear hcz23_5
                    try clear hfz12_0
                    try clear hfz12_1
                    try clear hfz12_2
                    try clear hfz12_3
                    try clear hfz12_4
                    try clear hfz12_5
                    try clear hfz23_0
                    try clear hfz23_1
                    try clear hfz23_2
                    try clear hfz23_3
                    try clear hfz23_4
                    try clear hfz23_5
                    try clear p2
                    obtain ⟨x14_3, x261000_3, x261001_3, x261002_3, x261003_3, x261004_3, x261005_3, rfl, HA, HK3, BK259, BK260, HB⟩ := hrel
                    cases gk with
                    | zero => exact absurd HA.out (by simp [gangsawref42_Plan.l1])
                    | succ k3 =>
                      have H := HA.out
                      clear HA
                      simp only [gangsawref42_Plan.l1] at H
                      by_cases c28 : x14_3 ≥ a0_2
                      · rw [if_pos c28] at H
                        have c28b0 : decide (a0_2 ≤ x14_3) = true := decide_eq_true c28
                        clear c28
                        by_cases c29 : x13_2 = 0
                        · rw [if_pos c29] at H
                          exact absurd H (by simp)
                        · rw [if_neg c29] at H
                          have c29b0 : (x13_2 == 0) = false := beq_eq_false_iff_ne.mpr c29
                          have c29b1 : (x13_2 != 0) = true := bne_iff_ne.mpr c29
                          have HC30 := Aside0.mk H
                          clear H
                          have hnb31 := NB259_260.out
                          have hnc31 := NB260_259.out
                          have hcz32_0 : wr.cell? ⟨gb259, 0, none⟩ = some (.int .i64 a0_0) := (blk_cell BK259.out 0).trans rfl
                          have hcz32_1 : wr.cell? ⟨gb259, 1, none⟩ = some (.int .i64 a0_1) := (blk_cell BK259.out 1).trans rfl
                          have hcz32_2 : wr.cell? ⟨gb259, 2, none⟩ = some (.int .i64 a0_2) := (blk_cell BK259.out 2).trans rfl
                          have hcz32_3 : wr.cell? ⟨gb259, 3, none⟩ = some (.int .i64 a0_3) := (blk_cell BK259.out 3).trans rfl
                          have hcz32_4 : wr.cell? ⟨gb259, 4, none⟩ = some (.int .i64 a0_4) := (blk_cell BK259.out 4).trans rfl
                          have hcz32_5 : wr.cell? ⟨gb259, 5, none⟩ = some (.int .i64 a0_5) := (blk_cell BK259.out 5).trans rfl
                          have hfz32_0 := blk_frozen BK259.out 0
                          have hfz32_1 := blk_frozen BK259.out 1
                          have hfz32_2 := blk_frozen BK259.out 2
                          have hfz32_3 := blk_frozen BK259.out 3
                          have hfz32_4 := blk_frozen BK259.out 4
                          have hfz32_5 := blk_frozen BK259.out 5
                          try go_wp2
                          have n0_ := Aside0.mk (blk_drew BK259.out)
                          have n1_ := Aside0.mk (blk_drew BK260.out)
                          have n2_ := Aside0.mk (below_drew1 HB.out)
                          clear BK259
                          clear BK260
                          clear HB
                          have BK259 := n0_
                          have BK260 := n1_
                          have HB := n2_
                          clear n0_ n1_ n2_
                          refine start_ (n := 13) (S := fun w' => True) (ds := []) #[false, false, false, false, false, false, false, false, false, false, false, false, false] (by kernel_rfl) rfl rfl trivial (fun hHeld => ?_); refine with_tabW gangsawref42_Plan.tab12 gangsawref42_Plan.bits12 (fun HT_ HW_ => ?_)
                          generalize wr.drew = w33 at BK259 BK260 HB hHeld ⊢
                          refine pure_ (i := 0) (N := some 59) (v := ?_) (a' := ?_) #[true, false, false, false, false, false, false, false, false, false, false, false, false] rfl rfl (any_of HT_.out (by kernel_rfl)) (fun _ _ _ h => h) (Or.inl ⟨by rfl, ?_⟩) ?_ ?_
                          rotate_left
                          · intro w'
                            go_simp
                            with_reducible rfl
                          rotate_left
                          · simp only [Act.put, List.setIfInBounds_toArray, List.set_cons_zero, List.set_cons_succ, i64_w, i32_w]
                            rfl
                          refine pure_ (i := 1) (N := some 60) (v := ?_) (a' := ?_) #[true, true, false, false, false, false, false, false, false, false, false, false, false] rfl rfl (any_of HT_.out (by kernel_rfl)) (fun _ _ _ h => h) (Or.inl ⟨by rfl, ?_⟩) ?_ ?_
                          rotate_left
                          · intro w'
                            go_simp
                            with_reducible rfl
                          rotate_left
                          · simp only [Act.put, List.setIfInBounds_toArray, List.set_cons_zero, List.set_cons_succ, i64_w, i32_w]
                            rfl
                          refine pure_ (i := 2) (N := some 61) (v := ?_) (a' := ?_) #[true, true, true, false, false, false, false, false, false, false, false, false, false] rfl rfl (any_of HT_.out (by kernel_rfl)) (fun _ _ _ h => h) (Or.inl ⟨by rfl, ?_⟩) ?_ ?_
                          rotate_left
                          · intro w'
                            go_simp
                            with_reducible rfl
                          rotate_left
                          · simp only [Act.put, List.setIfInBounds_toArray, List.set_cons_zero, List.set_cons_succ, i64_w, i32_w]
                            rfl
                          refine pure_ (i := 3) (N := some 62) (v := ?_) (a' := ?_) #[true, true, true, true, false, false, false, false, false, false, false, false, false] rfl rfl (any_of HT_.out (by kernel_rfl)) (fun _ _ _ h => h) (Or.inl ⟨by rfl, ?_⟩) ?_ ?_
                          rotate_left
                          · intro w'
                            go_simp
                            with_reducible rfl
                          rotate_left
                          · simp only [Act.put, List.setIfInBounds_toArray, List.set_cons_zero, List.set_cons_succ, i64_w, i32_w]
                            rfl
                          refine pure_ (i := 4) (N := some 63) (v := ?_) (a' := ?_) #[true, true, true, true, true, false, false, false, false, false, false, false, false] rfl rfl (any_of HT_.out (by kernel_rfl)) (fun _ _ _ h => h) (Or.inl ⟨by rfl, ?_⟩) ?_ ?_
                          rotate_left
                          · intro w'
                            go_simp
                            with_reducible rfl
                          rotate_left
                          · simp only [Act.put, List.setIfInBounds_toArray, List.set_cons_zero, List.set_cons_succ, i64_w, i32_w]
                            rfl
                          refine pure_ (i := 5) (N := some 64) (v := ?_) (a' := ?_) #[true, true, true, true, true, true, false, false, false, false, false, false, false] rfl rfl (any_of HT_.out (by kernel_rfl)) (fun _ _ _ h => h) (Or.inl ⟨by rfl, ?_⟩) ?_ ?_
                          rotate_left
                          · intro w'
                            go_simp
                            with_reducible rfl
                          rotate_left
                          · simp only [Act.put, List.setIfInBounds_toArray, List.set_cons_zero, List.set_cons_succ, i64_w, i32_w]
                            rfl
                          refine pure_ (i := 6) (N := some 65) (v := ?_) (a' := ?_) #[true, true, true, true, true, true, true, false, false, false, false, false, false] rfl rfl (any_of HT_.out (by kernel_rfl)) (fun _ _ _ h => h) (Or.inl ⟨by rfl, ?_⟩) ?_ ?_
                          rotate_left
                          · intro w'
                            go_simp
                            with_reducible rfl
                          rotate_left
                          · simp only [Act.put, List.setIfInBounds_toArray, List.set_cons_zero, List.set_cons_succ, i64_w, i32_w]
                            rfl
                          refine pure_ (i := 7) (N := some 66) (v := ?_) (a' := ?_) #[true, true, true, true, true, true, true, true, false, false, false, false, false] rfl rfl (any_of HT_.out (by kernel_rfl)) (fun _ _ _ h => h) (Or.inl ⟨by rfl, ?_⟩) ?_ ?_
                          rotate_left
                          · intro w'
                            go_simp
                            with_reducible rfl
                          rotate_left
                          · simp only [Act.put, List.setIfInBounds_toArray, List.set_cons_zero, List.set_cons_succ, i64_w, i32_w]
                            rfl
                          refine pure_ (i := 8) (N := some 67) (v := ?_) (a' := ?_) #[true, true, true, true, true, true, true, true, true, false, false, false, false] rfl rfl (any_of HT_.out (by kernel_rfl)) (fun _ _ _ h => h) (Or.inl ⟨by rfl, ?_⟩) ?_ ?_
                          rotate_left
                          · intro w'
                            go_simp
                            with_reducible rfl
                          rotate_left
                          · simp only [Act.put, List.setIfInBounds_toArray, List.set_cons_zero, List.set_cons_succ, i64_w, i32_w]
                            rfl
                          refine pure_ (i := 9) (N := some 68) (v := ?_) (a' := ?_) #[true, true, true, true, true, true, true, true, true, true, false, false, false] rfl rfl (any_of HT_.out (by kernel_rfl)) (fun _ _ _ h => h) (Or.inl ⟨by rfl, ?_⟩) ?_ ?_
                          rotate_left
                          · intro w'
                            go_simp
                            with_reducible rfl
                          rotate_left
                          · simp only [Act.put, List.setIfInBounds_toArray, List.set_cons_zero, List.set_cons_succ, i64_w, i32_w]
                            rfl
                          refine pure_ (i := 10) (N := some 69) (v := ?_) (a' := ?_) #[true, true, true, true, true, true, true, true, true, true, true, false, false] rfl rfl (any_of HT_.out (by kernel_rfl)) (fun _ _ _ h => h) (Or.inl ⟨by rfl, ?_⟩) ?_ ?_
                          rotate_left
                          · intro w'
                            go_simp
                            with_reducible rfl
                          rotate_left
                          · simp only [Act.put, List.setIfInBounds_toArray, List.set_cons_zero, List.set_cons_succ, i64_w, i32_w]
                            rfl
                          refine one_ (i := 11) (N := some 15) #[true, true, true, true, true, true, true, true, true, true, true, true, false] rfl rfl (one_of HT_.out (by kernel_rfl)) (by decide) (fun K hK => ?_)
                          refine box_step ?hg (N := 15) ?hd (cs := #[.int .i64 0, .int .i64 0, .int .i64 0, .int .i64 0, .int .i64 0, .int .i64 0]) (t := 27) ?hr ?_; (case hd => rfl); (case hg => rfl); (case hr => first | (go_simp; done) | (go_simp; rfl))
                          intro gb266 hg w34 hbox hb
                          have n0_ := Aside0.mk (blk_below (g := gb259) (o := .cells #[.int .i64 a0_0, .int .i64 a0_1, .int .i64 a0_2, .int .i64 a0_3, .int .i64 a0_4, .int .i64 a0_5] 25 (0, 0)) (by (with_reducible repeat (first | refine blk_drewN ?_ _ | refine blk_drew ?_ | refine blk_alloc ?_ _)); exact BK259.out) hb)
                          have n1_ := Aside0.mk (blk_below (g := gb260) (o := .cells #[.int .i64 x261000_3, .int .i64 x261001_3, .int .i64 x261002_3, .int .i64 x261003_3, .int .i64 x261004_3, .int .i64 x261005_3] 27 (0, 0)) (by (with_reducible repeat (first | refine blk_drewN ?_ _ | refine blk_drew ?_ | refine blk_alloc ?_ _)); exact BK260.out) hb)
                          have n2_ := Aside0.mk (below_step (by repeat (first | (with_reducible first | exact HB.out | apply below_alloc | apply pw_below_drewN | apply below_drew1 | refine below_set ?_ GE259.out | refine below_set ?_ GE260.out) | exact HB.out)) hb)
                          have n3_ := Aside0.mk (hbox)
                          have n4_ := Aside0.mk ((by rw [hg]; exact (below_size (by repeat (first | (with_reducible first | exact HB.out | apply below_alloc | apply pw_below_drewN | apply below_drew1 | refine below_set ?_ GE259.out | refine below_set ?_ GE260.out) | exact HB.out))) : w.heap.size ≤ gb266))
                          have n5_ := Aside0.mk ((by rw [hg]; exact (below_size (by repeat (first | (with_reducible first | exact HB.out | apply below_alloc | apply pw_below_drewN | apply below_drew1 | refine below_set ?_ GE259.out | refine below_set ?_ GE260.out) | exact HB.out))) : w.heap.size ≤ gb266))
                          have n6_ := Aside0.mk ((by rw [hg]; exact Nat.ne_of_lt (blk_lt (g := gb259) (o := .cells #[.int .i64 a0_0, .int .i64 a0_1, .int .i64 a0_2, .int .i64 a0_3, .int .i64 a0_4, .int .i64 a0_5] 25 (0, 0)) (by (with_reducible repeat (first | refine blk_drewN ?_ _ | refine blk_drew ?_ | refine blk_alloc ?_ _)); exact BK259.out)) : gb259 ≠ gb266))
                          have n7_ := Aside0.mk ((by rw [hg]; exact Nat.ne_of_gt (blk_lt (g := gb259) (o := .cells #[.int .i64 a0_0, .int .i64 a0_1, .int .i64 a0_2, .int .i64 a0_3, .int .i64 a0_4, .int .i64 a0_5] 25 (0, 0)) (by (with_reducible repeat (first | refine blk_drewN ?_ _ | refine blk_drew ?_ | refine blk_alloc ?_ _)); exact BK259.out)) : gb266 ≠ gb259))
                          have n8_ := Aside0.mk ((by rw [hg]; exact Nat.ne_of_lt (blk_lt (g := gb260) (o := .cells #[.int .i64 x261000_3, .int .i64 x261001_3, .int .i64 x261002_3, .int .i64 x261003_3, .int .i64 x261004_3, .int .i64 x261005_3] 27 (0, 0)) (by (with_reducible repeat (first | refine blk_drewN ?_ _ | refine blk_drew ?_ | refine blk_alloc ?_ _)); exact BK260.out)) : gb260 ≠ gb266))
                          have n9_ := Aside0.mk ((by rw [hg]; exact Nat.ne_of_gt (blk_lt (g := gb260) (o := .cells #[.int .i64 x261000_3, .int .i64 x261001_3, .int .i64 x261002_3, .int .i64 x261003_3, .int .i64 x261004_3, .int .i64 x261005_3] 27 (0, 0)) (by (with_reducible repeat (first | refine blk_drewN ?_ _ | refine blk_drew ?_ | refine blk_alloc ?_ _)); exact BK260.out)) : gb266 ≠ gb260))
                          clear BK259
                          clear BK260
                          clear HB
                          have BK259 := n0_
                          have BK260 := n1_
                          have HB := n2_
                          have BK266 := n3_
                          have GW266 := n4_
                          have GE266 := n5_
                          have NB259_266 := n6_
                          have NB266_259 := n7_
                          have NB260_266 := n8_
                          have NB266_260 := n9_
                          clear n0_ n1_ n2_ n3_ n4_ n5_ n6_ n7_ n8_ n9_
                          clear hb hbox hg
                          refine hK.out _ _ trivial (fun hHeld => ?_)
                          clear hK K
                          refine norm_ (a' := ?_) ?_ ?_
                          rotate_left
                          · show Act.put _ (some 15) _ = _
                            simp only [Act.put, List.setIfInBounds_toArray, List.set_cons_zero, List.set_cons_succ, i64_w, i32_w]
                            rfl
                          refine one_ (i := 12) (N := none) #[true, true, true, true, true, true, true, true, true, true, true, true, true] rfl rfl (one_of HT_.out (by kernel_rfl)) (by decide) (fun K hK => ?_)
                          have hs35 : w34.cell? ⟨gb266, 0, none⟩ = some (.int .i64 0) := (blk_cell BK266.out 0).trans rfl
                          have hfs35 := blk_frozen BK266.out 0
                          have hns35_0 := NB259_266.out
                          have hns35_1 := NB260_266.out
                          have hms35_0 := NB266_259.out
                          have hms35_1 := NB266_260.out
                          have hs36 : w34.cell? ⟨gb266, 1, none⟩ = some (.int .i64 0) := (blk_cell BK266.out 1).trans rfl
                          have hfs36 := blk_frozen BK266.out 1
                          have hns36_0 := NB259_266.out
                          have hns36_1 := NB260_266.out
                          have hms36_0 := NB266_259.out
                          have hms36_1 := NB266_260.out
                          have hs37 : w34.cell? ⟨gb266, 2, none⟩ = some (.int .i64 0) := (blk_cell BK266.out 2).trans rfl
                          have hfs37 := blk_frozen BK266.out 2
                          have hns37_0 := NB259_266.out
                          have hns37_1 := NB260_266.out
                          have hms37_0 := NB266_259.out
                          have hms37_1 := NB266_260.out
                          have hs38 : w34.cell? ⟨gb266, 3, none⟩ = some (.int .i64 0) := (blk_cell BK266.out 3).trans rfl
                          have hfs38 := blk_frozen BK266.out 3
                          have hns38_0 := NB259_266.out
                          have hns38_1 := NB260_266.out
                          have hms38_0 := NB266_259.out
                          have hms38_1 := NB266_260.out
                          have hs39 : w34.cell? ⟨gb266, 4, none⟩ = some (.int .i64 0) := (blk_cell BK266.out 4).trans rfl
                          have hfs39 := blk_frozen BK266.out 4
                          have hns39_0 := NB259_266.out
                          have hns39_1 := NB260_266.out
                          have hms39_0 := NB266_259.out
                          have hms39_1 := NB266_260.out
                          have hs40 : w34.cell? ⟨gb266, 5, none⟩ = some (.int .i64 0) := (blk_cell BK266.out 5).trans rfl
                          have hfs40 := blk_frozen BK266.out 5
                          have hns40_0 := NB259_266.out
                          have hns40_1 := NB260_266.out
                          have hms40_0 := NB266_259.out
                          have hms40_1 := NB266_260.out
                          refine skip_ (w1 := ?_) (by rfl) rfl ?_ ?_
                          rotate_left
                          · go_simp
                            rfl
                          refine hK.out _ _ trivial (fun hHeld => ?_)
                          clear hK K
                          refine done_ (done_of HT_.out (by kernel_rfl)) ?_
                          go_upto_region 13 with (fail)
                          go_cut [77] (fun v77 wc => ∃ (kq : Nat) (x77_29 : Bool), v77 = .bool x77_29 ∧ Aside0 (gangsawref42_Plan.j3 kq a1 a2 a3 a4 x13_2 x14_3 x77_29 a0_0 a0_1 a0_2 a0_3 a0_4 a0_5 x13_2 (wrap64 (Int.tdiv a1 x13_2)) (Int.tmod a1 x13_2) x14_3 a3 a4 = some (r1, r2, r3, r4, r5, r6, r7)) ∧ Aside0 (kq ≤ k3) ∧ Aside0 (wc.heap[gb259]? = some (.cells #[.int .i64 a0_0, .int .i64 a0_1, .int .i64 a0_2, .int .i64 a0_3, .int .i64 a0_4, .int .i64 a0_5] 25 (0, 0))) ∧ Aside0 (wc.heap[gb260]? = some (.cells #[.int .i64 x261000_3, .int .i64 x261001_3, .int .i64 x261002_3, .int .i64 x261003_3, .int .i64 x261004_3, .int .i64 x261005_3] 27 (0, 0))) ∧ Aside0 (wc.heap[gb266]? = some (.cells #[.int .i64 x13_2, .int .i64 (wrap64 (Int.tdiv a1 x13_2)), .int .i64 (Int.tmod a1 x13_2), .int .i64 x14_3, .int .i64 a3, .int .i64 a4] 27 (0, 0))) ∧ Aside0 (Below w.heap.size w wc))
                          case first =>
                            have H := HC30.out
                            clear HC30
                            replace H := Option.bind_eq_some_iff.mp H
                            obtain ⟨t267, A410, H⟩ := H
                            replace H : (if t267 = true then ((gangsawref42_Keeps.f k3 a0_0 a0_1 a0_2 a0_3 a0_4 a0_5 x13_2 (wrap64 (Int.tdiv a1 x13_2)) (Int.tmod a1 x13_2) x14_3 a3 a4).bind fun t268 => (gangsawref42_Plan.j3 k3 a1 a2 a3 a4 x13_2 x14_3 (t268 == 0) a0_0 a0_1 a0_2 a0_3 a0_4 a0_5 x13_2 (wrap64 (Int.tdiv a1 x13_2)) (Int.tmod a1 x13_2) x14_3 a3 a4)) else (gangsawref42_Plan.j3 k3 a1 a2 a3 a4 x13_2 x14_3 false a0_0 a0_1 a0_2 a0_3 a0_4 a0_5 x13_2 (wrap64 (Int.tdiv a1 x13_2)) (Int.tmod a1 x13_2) x14_3 a3 a4)) = some (r1, r2, r3, r4, r5, r6, r7) := H
                            have A41 := Aside0.mk A410
                            clear A410
                            by_cases c42 : t267 = true
                            · subst c42
                              have H1 : ((gangsawref42_Keeps.f k3 a0_0 a0_1 a0_2 a0_3 a0_4 a0_5 x13_2 (wrap64 (Int.tdiv a1 x13_2)) (Int.tmod a1 x13_2) x14_3 a3 a4).bind fun t268 => (gangsawref42_Plan.j3 k3 a1 a2 a3 a4 x13_2 x14_3 (t268 == 0) a0_0 a0_1 a0_2 a0_3 a0_4 a0_5 x13_2 (wrap64 (Int.tdiv a1 x13_2)) (Int.tmod a1 x13_2) x14_3 a3 a4)) = some (r1, r2, r3, r4, r5, r6, r7) := by rw [if_pos rfl] at H; exact H
                              clear H
                              have H := H1
                              clear H1
                              replace H := Option.bind_eq_some_iff.mp H
                              obtain ⟨t268, A430, H⟩ := H
                              replace H : (gangsawref42_Plan.j3 k3 a1 a2 a3 a4 x13_2 x14_3 (t268 == 0) a0_0 a0_1 a0_2 a0_3 a0_4 a0_5 x13_2 (wrap64 (Int.tdiv a1 x13_2)) (Int.tmod a1 x13_2) x14_3 a3 a4) = some (r1, r2, r3, r4, r5, r6, r7) := H
                              have A43 := Aside0.mk A430
                              clear A430
                              have H' := Aside0.mk H
                              clear H
                              have hnb44 := NB266_259.out
                              have hnc44 := NB259_266.out
                              have hnb45 := NB266_260.out
                              have hnc45 := NB260_266.out
                              have hcz46_0 : w34.cell? ⟨gb266, 0, none⟩ = some (.int .i64 0) := (blk_cell BK266.out 0).trans rfl
                              have hcz46_1 : w34.cell? ⟨gb266, 1, none⟩ = some (.int .i64 0) := (blk_cell BK266.out 1).trans rfl
                              have hcz46_2 : w34.cell? ⟨gb266, 2, none⟩ = some (.int .i64 0) := (blk_cell BK266.out 2).trans rfl
                              have hcz46_3 : w34.cell? ⟨gb266, 3, none⟩ = some (.int .i64 0) := (blk_cell BK266.out 3).trans rfl
                              have hcz46_4 : w34.cell? ⟨gb266, 4, none⟩ = some (.int .i64 0) := (blk_cell BK266.out 4).trans rfl
                              have hcz46_5 : w34.cell? ⟨gb266, 5, none⟩ = some (.int .i64 0) := (blk_cell BK266.out 5).trans rfl
                              have hfz46_0 := blk_frozen BK266.out 0
                              have hfz46_1 := blk_frozen BK266.out 1
                              have hfz46_2 := blk_frozen BK266.out 2
                              have hfz46_3 := blk_frozen BK266.out 3
                              have hfz46_4 := blk_frozen BK266.out 4
                              have hfz46_5 := blk_frozen BK266.out 5
                              go_wp2_with (first | ((with_reducible refine gate_callee (f := 18) rfl ?_); refine goesL_ (some 71) rfl rfl Try.func18 (by kernel_rfl) rfl #[.agg #[.int .i64 x13_2, .int .i64 (wrap64 (Int.tdiv a1 x13_2)), .int .i64 (Int.tmod a1 x13_2), .int .i64 x14_3, .int .i64 a3, .int .i64 a4]] rfl (by (try simp only [List.map_toArray, List.map_cons, List.map_nil]); first | done | rfl | (simp only [List.length_drop, List.length_take]; rfl)) ?_; (with_reducible refine (gangsawref42_Valid.calls x13_2 (wrap64 (Int.tdiv a1 x13_2)) (Int.tmod a1 x13_2) x14_3 a3 a4 true _ A41.out).mono ?_); rintro e w47 ⟨rfl, hb⟩; refine ⟨_, rfl, ?_⟩; have n0_ := Aside0.mk (blk_below (g := gb259) (o := .cells #[.int .i64 a0_0, .int .i64 a0_1, .int .i64 a0_2, .int .i64 a0_3, .int .i64 a0_4, .int .i64 a0_5] 25 (0, 0)) (by (with_reducible repeat (first | refine blk_drewN ?_ _ | refine blk_drew ?_ | refine blk_alloc ?_ _)); refine blk_far ?_ NB259_266.out _; (with_reducible repeat (first | refine blk_drewN ?_ _ | refine blk_drew ?_ | refine blk_alloc ?_ _)); refine blk_far ?_ NB259_266.out _; (with_reducible repeat (first | refine blk_drewN ?_ _ | refine blk_drew ?_ | refine blk_alloc ?_ _)); refine blk_far ?_ NB259_266.out _; (with_reducible repeat (first | refine blk_drewN ?_ _ | refine blk_drew ?_ | refine blk_alloc ?_ _)); refine blk_far ?_ NB259_266.out _; (with_reducible repeat (first | refine blk_drewN ?_ _ | refine blk_drew ?_ | refine blk_alloc ?_ _)); refine blk_far ?_ NB259_266.out _; (with_reducible repeat (first | refine blk_drewN ?_ _ | refine blk_drew ?_ | refine blk_alloc ?_ _)); refine blk_far ?_ NB259_266.out _; (with_reducible repeat (first | refine blk_drewN ?_ _ | refine blk_drew ?_ | refine blk_alloc ?_ _)); exact BK259.out) hb); have n1_ := Aside0.mk (blk_below (g := gb260) (o := .cells #[.int .i64 x261000_3, .int .i64 x261001_3, .int .i64 x261002_3, .int .i64 x261003_3, .int .i64 x261004_3, .int .i64 x261005_3] 27 (0, 0)) (by (with_reducible repeat (first | refine blk_drewN ?_ _ | refine blk_drew ?_ | refine blk_alloc ?_ _)); refine blk_far ?_ NB260_266.out _; (with_reducible repeat (first | refine blk_drewN ?_ _ | refine blk_drew ?_ | refine blk_alloc ?_ _)); refine blk_far ?_ NB260_266.out _; (with_reducible repeat (first | refine blk_drewN ?_ _ | refine blk_drew ?_ | refine blk_alloc ?_ _)); refine blk_far ?_ NB260_266.out _; (with_reducible repeat (first | refine blk_drewN ?_ _ | refine blk_drew ?_ | refine blk_alloc ?_ _)); refine blk_far ?_ NB260_266.out _; (with_reducible repeat (first | refine blk_drewN ?_ _ | refine blk_drew ?_ | refine blk_alloc ?_ _)); refine blk_far ?_ NB260_266.out _; (with_reducible repeat (first | refine blk_drewN ?_ _ | refine blk_drew ?_ | refine blk_alloc ?_ _)); refine blk_far ?_ NB260_266.out _; (with_reducible repeat (first | refine blk_drewN ?_ _ | refine blk_drew ?_ | refine blk_alloc ?_ _)); exact BK260.out) hb); have n2_ := Aside0.mk (blk_below (g := gb266) (o := .cells #[.int .i64 x13_2, .int .i64 (wrap64 (Int.tdiv a1 x13_2)), .int .i64 (Int.tmod a1 x13_2), .int .i64 x14_3, .int .i64 a3, .int .i64 a4] 27 (0, 0)) (by (with_reducible repeat (first | refine blk_drewN ?_ _ | refine blk_drew ?_ | refine blk_alloc ?_ _)); refine blk_put (cs := #[.int .i64 x13_2, .int .i64 (wrap64 (Int.tdiv a1 x13_2)), .int .i64 (Int.tmod a1 x13_2), .int .i64 x14_3, .int .i64 a3, .int .i64 0]) ?_ 5 _ rfl; (with_reducible repeat (first | refine blk_drewN ?_ _ | refine blk_drew ?_ | refine blk_alloc ?_ _)); refine blk_put (cs := #[.int .i64 x13_2, .int .i64 (wrap64 (Int.tdiv a1 x13_2)), .int .i64 (Int.tmod a1 x13_2), .int .i64 x14_3, .int .i64 0, .int .i64 0]) ?_ 4 _ rfl; (with_reducible repeat (first | refine blk_drewN ?_ _ | refine blk_drew ?_ | refine blk_alloc ?_ _)); refine blk_put (cs := #[.int .i64 x13_2, .int .i64 (wrap64 (Int.tdiv a1 x13_2)), .int .i64 (Int.tmod a1 x13_2), .int .i64 0, .int .i64 0, .int .i64 0]) ?_ 3 _ rfl; (with_reducible repeat (first | refine blk_drewN ?_ _ | refine blk_drew ?_ | refine blk_alloc ?_ _)); refine blk_put (cs := #[.int .i64 x13_2, .int .i64 (wrap64 (Int.tdiv a1 x13_2)), .int .i64 0, .int .i64 0, .int .i64 0, .int .i64 0]) ?_ 2 _ rfl; (with_reducible repeat (first | refine blk_drewN ?_ _ | refine blk_drew ?_ | refine blk_alloc ?_ _)); refine blk_put (cs := #[.int .i64 x13_2, .int .i64 0, .int .i64 0, .int .i64 0, .int .i64 0, .int .i64 0]) ?_ 1 _ rfl; (with_reducible repeat (first | refine blk_drewN ?_ _ | refine blk_drew ?_ | refine blk_alloc ?_ _)); refine blk_put (cs := #[.int .i64 0, .int .i64 0, .int .i64 0, .int .i64 0, .int .i64 0, .int .i64 0]) ?_ 0 _ rfl; (with_reducible repeat (first | refine blk_drewN ?_ _ | refine blk_drew ?_ | refine blk_alloc ?_ _)); exact BK266.out) hb); have n3_ := Aside0.mk (below_step (by repeat (first | (with_reducible first | exact HB.out | apply below_alloc | apply pw_below_drewN | apply below_drew1 | refine below_set ?_ GE259.out | refine below_set ?_ GE260.out | refine below_set ?_ GE266.out) | exact HB.out)) hb); clear BK259; clear BK260; clear BK266; clear HB; have BK259 := n0_; have BK260 := n1_; have BK266 := n2_; have HB := n3_; clear n0_ n1_ n2_ n3_; (try clear hb); (try clear hb2); (try clear hk); (try clear hi); have hnb48 := NB259_260.out; have hnc48 := NB260_259.out; have hcz49_0 : w47.cell? ⟨gb259, 0, none⟩ = some (.int .i64 a0_0) := (blk_cell BK259.out 0).trans rfl; have hcz49_1 : w47.cell? ⟨gb259, 1, none⟩ = some (.int .i64 a0_1) := (blk_cell BK259.out 1).trans rfl; have hcz49_2 : w47.cell? ⟨gb259, 2, none⟩ = some (.int .i64 a0_2) := (blk_cell BK259.out 2).trans rfl; have hcz49_3 : w47.cell? ⟨gb259, 3, none⟩ = some (.int .i64 a0_3) := (blk_cell BK259.out 3).trans rfl; have hcz49_4 : w47.cell? ⟨gb259, 4, none⟩ = some (.int .i64 a0_4) := (blk_cell BK259.out 4).trans rfl; have hcz49_5 : w47.cell? ⟨gb259, 5, none⟩ = some (.int .i64 a0_5) := (blk_cell BK259.out 5).trans rfl; have hfz49_0 := blk_frozen BK259.out 0; have hfz49_1 := blk_frozen BK259.out 1; have hfz49_2 := blk_frozen BK259.out 2; have hfz49_3 := blk_frozen BK259.out 3; have hfz49_4 := blk_frozen BK259.out 4; have hfz49_5 := blk_frozen BK259.out 5; have hcz50_0 : w47.cell? ⟨gb266, 0, none⟩ = some (.int .i64 x13_2) := (blk_cell BK266.out 0).trans rfl; have hcz50_1 : w47.cell? ⟨gb266, 1, none⟩ = some (.int .i64 (wrap64 (Int.tdiv a1 x13_2))) := (blk_cell BK266.out 1).trans rfl; have hcz50_2 : w47.cell? ⟨gb266, 2, none⟩ = some (.int .i64 (Int.tmod a1 x13_2)) := (blk_cell BK266.out 2).trans rfl; have hcz50_3 : w47.cell? ⟨gb266, 3, none⟩ = some (.int .i64 x14_3) := (blk_cell BK266.out 3).trans rfl; have hcz50_4 : w47.cell? ⟨gb266, 4, none⟩ = some (.int .i64 a3) := (blk_cell BK266.out 4).trans rfl; have hcz50_5 : w47.cell? ⟨gb266, 5, none⟩ = some (.int .i64 a4) := (blk_cell BK266.out 5).trans rfl; have hfz50_0 := blk_frozen BK266.out 0; have hfz50_1 := blk_frozen BK266.out 1; have hfz50_2 := blk_frozen BK266.out 2; have hfz50_3 := blk_frozen BK266.out 3; have hfz50_4 := blk_frozen BK266.out 4; have hfz50_5 := blk_frozen BK266.out 5) | (go_at_call 36; (with_reducible refine (gangsawref42_Keeps.calls k3 a0_0 a0_1 a0_2 a0_3 a0_4 a0_5 x13_2 (wrap64 (Int.tdiv a1 x13_2)) (Int.tmod a1 x13_2) x14_3 a3 a4 t268 _ A43.out).mono ?_); rintro e w51 ⟨rfl, hb⟩; have n0_ := Aside0.mk (blk_below (g := gb259) (o := .cells #[.int .i64 a0_0, .int .i64 a0_1, .int .i64 a0_2, .int .i64 a0_3, .int .i64 a0_4, .int .i64 a0_5] 25 (0, 0)) (by (with_reducible repeat (first | refine blk_drewN ?_ _ | refine blk_drew ?_ | refine blk_alloc ?_ _)); exact BK259.out) hb); have n1_ := Aside0.mk (blk_below (g := gb260) (o := .cells #[.int .i64 x261000_3, .int .i64 x261001_3, .int .i64 x261002_3, .int .i64 x261003_3, .int .i64 x261004_3, .int .i64 x261005_3] 27 (0, 0)) (by (with_reducible repeat (first | refine blk_drewN ?_ _ | refine blk_drew ?_ | refine blk_alloc ?_ _)); exact BK260.out) hb); have n2_ := Aside0.mk (blk_below (g := gb266) (o := .cells #[.int .i64 x13_2, .int .i64 (wrap64 (Int.tdiv a1 x13_2)), .int .i64 (Int.tmod a1 x13_2), .int .i64 x14_3, .int .i64 a3, .int .i64 a4] 27 (0, 0)) (by (with_reducible repeat (first | refine blk_drewN ?_ _ | refine blk_drew ?_ | refine blk_alloc ?_ _)); exact BK266.out) hb); have n3_ := Aside0.mk (below_step (by repeat (first | (with_reducible first | exact HB.out | apply below_alloc | apply pw_below_drewN | apply below_drew1 | refine below_set ?_ GE259.out | refine below_set ?_ GE260.out | refine below_set ?_ GE266.out) | exact HB.out)) hb); clear BK259; clear BK260; clear BK266; clear HB; have BK259 := n0_; have BK260 := n1_; have BK266 := n2_; have HB := n3_; clear n0_ n1_ n2_ n3_; (try clear hb); (try clear hb2); (try clear hk); (try clear hi)))
                              go_meet
                              case rel => exact ⟨_, ((t268 == 0)), (by first | rfl | (simp; done) | (simp [*]; done)), H', ⟨by have := HJ7.out; have := HK2.out; have := HK3.out; first | omega | exact Nat.le_refl _⟩, ⟨by (with_reducible repeat (first | refine blk_drewN ?_ _ | refine blk_drew ?_ | refine blk_alloc ?_ _)); exact BK259.out⟩, ⟨by (with_reducible repeat (first | refine blk_drewN ?_ _ | refine blk_drew ?_ | refine blk_alloc ?_ _)); exact BK260.out⟩, ⟨by (with_reducible repeat (first | refine blk_drewN ?_ _ | refine blk_drew ?_ | refine blk_alloc ?_ _)); exact BK266.out⟩, ⟨by repeat (first | (with_reducible first | exact HB.out | apply below_alloc | apply pw_below_drewN | apply below_drew1 | refine below_set ?_ GE259.out | refine below_set ?_ GE260.out | refine below_set ?_ GE266.out) | exact HB.out)⟩⟩
                            · replace c42 := Bool.eq_false_iff.mpr c42
                              subst c42
                              have H1 : (gangsawref42_Plan.j3 k3 a1 a2 a3 a4 x13_2 x14_3 false a0_0 a0_1 a0_2 a0_3 a0_4 a0_5 x13_2 (wrap64 (Int.tdiv a1 x13_2)) (Int.tmod a1 x13_2) x14_3 a3 a4) = some (r1, r2, r3, r4, r5, r6, r7) := by rw [if_neg (show ¬ (false = true) by decide)] at H; exact H
                              clear H
                              have H := H1
                              clear H1
                              have H' := Aside0.mk H
                              clear H
                              have hnb52 := NB266_259.out
                              have hnc52 := NB259_266.out
                              have hnb53 := NB266_260.out
                              have hnc53 := NB260_266.out
                              have hcz54_0 : w34.cell? ⟨gb266, 0, none⟩ = some (.int .i64 0) := (blk_cell BK266.out 0).trans rfl
                              have hcz54_1 : w34.cell? ⟨gb266, 1, none⟩ = some (.int .i64 0) := (blk_cell BK266.out 1).trans rfl
                              have hcz54_2 : w34.cell? ⟨gb266, 2, none⟩ = some (.int .i64 0) := (blk_cell BK266.out 2).trans rfl
                              have hcz54_3 : w34.cell? ⟨gb266, 3, none⟩ = some (.int .i64 0) := (blk_cell BK266.out 3).trans rfl
                              have hcz54_4 : w34.cell? ⟨gb266, 4, none⟩ = some (.int .i64 0) := (blk_cell BK266.out 4).trans rfl
                              have hcz54_5 : w34.cell? ⟨gb266, 5, none⟩ = some (.int .i64 0) := (blk_cell BK266.out 5).trans rfl
                              have hfz54_0 := blk_frozen BK266.out 0
                              have hfz54_1 := blk_frozen BK266.out 1
                              have hfz54_2 := blk_frozen BK266.out 2
                              have hfz54_3 := blk_frozen BK266.out 3
                              have hfz54_4 := blk_frozen BK266.out 4
                              have hfz54_5 := blk_frozen BK266.out 5
                              go_wp2_with (first | ((with_reducible refine gate_callee (f := 18) rfl ?_); refine goesL_ (some 71) rfl rfl Try.func18 (by kernel_rfl) rfl #[.agg #[.int .i64 x13_2, .int .i64 (wrap64 (Int.tdiv a1 x13_2)), .int .i64 (Int.tmod a1 x13_2), .int .i64 x14_3, .int .i64 a3, .int .i64 a4]] rfl (by (try simp only [List.map_toArray, List.map_cons, List.map_nil]); first | done | rfl | (simp only [List.length_drop, List.length_take]; rfl)) ?_; (with_reducible refine (gangsawref42_Valid.calls x13_2 (wrap64 (Int.tdiv a1 x13_2)) (Int.tmod a1 x13_2) x14_3 a3 a4 false _ A41.out).mono ?_); rintro e w55 ⟨rfl, hb⟩; refine ⟨_, rfl, ?_⟩; have n0_ := Aside0.mk (blk_below (g := gb259) (o := .cells #[.int .i64 a0_0, .int .i64 a0_1, .int .i64 a0_2, .int .i64 a0_3, .int .i64 a0_4, .int .i64 a0_5] 25 (0, 0)) (by (with_reducible repeat (first | refine blk_drewN ?_ _ | refine blk_drew ?_ | refine blk_alloc ?_ _)); refine blk_far ?_ NB259_266.out _; (with_reducible repeat (first | refine blk_drewN ?_ _ | refine blk_drew ?_ | refine blk_alloc ?_ _)); refine blk_far ?_ NB259_266.out _; (with_reducible repeat (first | refine blk_drewN ?_ _ | refine blk_drew ?_ | refine blk_alloc ?_ _)); refine blk_far ?_ NB259_266.out _; (with_reducible repeat (first | refine blk_drewN ?_ _ | refine blk_drew ?_ | refine blk_alloc ?_ _)); refine blk_far ?_ NB259_266.out _; (with_reducible repeat (first | refine blk_drewN ?_ _ | refine blk_drew ?_ | refine blk_alloc ?_ _)); refine blk_far ?_ NB259_266.out _; (with_reducible repeat (first | refine blk_drewN ?_ _ | refine blk_drew ?_ | refine blk_alloc ?_ _)); refine blk_far ?_ NB259_266.out _; (with_reducible repeat (first | refine blk_drewN ?_ _ | refine blk_drew ?_ | refine blk_alloc ?_ _)); exact BK259.out) hb); have n1_ := Aside0.mk (blk_below (g := gb260) (o := .cells #[.int .i64 x261000_3, .int .i64 x261001_3, .int .i64 x261002_3, .int .i64 x261003_3, .int .i64 x261004_3, .int .i64 x261005_3] 27 (0, 0)) (by (with_reducible repeat (first | refine blk_drewN ?_ _ | refine blk_drew ?_ | refine blk_alloc ?_ _)); refine blk_far ?_ NB260_266.out _; (with_reducible repeat (first | refine blk_drewN ?_ _ | refine blk_drew ?_ | refine blk_alloc ?_ _)); refine blk_far ?_ NB260_266.out _; (with_reducible repeat (first | refine blk_drewN ?_ _ | refine blk_drew ?_ | refine blk_alloc ?_ _)); refine blk_far ?_ NB260_266.out _; (with_reducible repeat (first | refine blk_drewN ?_ _ | refine blk_drew ?_ | refine blk_alloc ?_ _)); refine blk_far ?_ NB260_266.out _; (with_reducible repeat (first | refine blk_drewN ?_ _ | refine blk_drew ?_ | refine blk_alloc ?_ _)); refine blk_far ?_ NB260_266.out _; (with_reducible repeat (first | refine blk_drewN ?_ _ | refine blk_drew ?_ | refine blk_alloc ?_ _)); refine blk_far ?_ NB260_266.out _; (with_reducible repeat (first | refine blk_drewN ?_ _ | refine blk_drew ?_ | refine blk_alloc ?_ _)); exact BK260.out) hb); have n2_ := Aside0.mk (blk_below (g := gb266) (o := .cells #[.int .i64 x13_2, .int .i64 (wrap64 (Int.tdiv a1 x13_2)), .int .i64 (Int.tmod a1 x13_2), .int .i64 x14_3, .int .i64 a3, .int .i64 a4] 27 (0, 0)) (by (with_reducible repeat (first | refine blk_drewN ?_ _ | refine blk_drew ?_ | refine blk_alloc ?_ _)); refine blk_put (cs := #[.int .i64 x13_2, .int .i64 (wrap64 (Int.tdiv a1 x13_2)), .int .i64 (Int.tmod a1 x13_2), .int .i64 x14_3, .int .i64 a3, .int .i64 0]) ?_ 5 _ rfl; (with_reducible repeat (first | refine blk_drewN ?_ _ | refine blk_drew ?_ | refine blk_alloc ?_ _)); refine blk_put (cs := #[.int .i64 x13_2, .int .i64 (wrap64 (Int.tdiv a1 x13_2)), .int .i64 (Int.tmod a1 x13_2), .int .i64 x14_3, .int .i64 0, .int .i64 0]) ?_ 4 _ rfl; (with_reducible repeat (first | refine blk_drewN ?_ _ | refine blk_drew ?_ | refine blk_alloc ?_ _)); refine blk_put (cs := #[.int .i64 x13_2, .int .i64 (wrap64 (Int.tdiv a1 x13_2)), .int .i64 (Int.tmod a1 x13_2), .int .i64 0, .int .i64 0, .int .i64 0]) ?_ 3 _ rfl; (with_reducible repeat (first | refine blk_drewN ?_ _ | refine blk_drew ?_ | refine blk_alloc ?_ _)); refine blk_put (cs := #[.int .i64 x13_2, .int .i64 (wrap64 (Int.tdiv a1 x13_2)), .int .i64 0, .int .i64 0, .int .i64 0, .int .i64 0]) ?_ 2 _ rfl; (with_reducible repeat (first | refine blk_drewN ?_ _ | refine blk_drew ?_ | refine blk_alloc ?_ _)); refine blk_put (cs := #[.int .i64 x13_2, .int .i64 0, .int .i64 0, .int .i64 0, .int .i64 0, .int .i64 0]) ?_ 1 _ rfl; (with_reducible repeat (first | refine blk_drewN ?_ _ | refine blk_drew ?_ | refine blk_alloc ?_ _)); refine blk_put (cs := #[.int .i64 0, .int .i64 0, .int .i64 0, .int .i64 0, .int .i64 0, .int .i64 0]) ?_ 0 _ rfl; (with_reducible repeat (first | refine blk_drewN ?_ _ | refine blk_drew ?_ | refine blk_alloc ?_ _)); exact BK266.out) hb); have n3_ := Aside0.mk (below_step (by repeat (first | (with_reducible first | exact HB.out | apply below_alloc | apply pw_below_drewN | apply below_drew1 | refine below_set ?_ GE259.out | refine below_set ?_ GE260.out | refine below_set ?_ GE266.out) | exact HB.out)) hb); clear BK259; clear BK260; clear BK266; clear HB; have BK259 := n0_; have BK260 := n1_; have BK266 := n2_; have HB := n3_; clear n0_ n1_ n2_ n3_; (try clear hb); (try clear hb2); (try clear hk); (try clear hi)))
                              go_meet
                              case rel => exact ⟨_, (false), (by first | rfl | (simp; done) | (simp [*]; done)), H', ⟨by have := HJ7.out; have := HK2.out; have := HK3.out; first | omega | exact Nat.le_refl _⟩, ⟨by (with_reducible repeat (first | refine blk_drewN ?_ _ | refine blk_drew ?_ | refine blk_alloc ?_ _)); exact BK259.out⟩, ⟨by (with_reducible repeat (first | refine blk_drewN ?_ _ | refine blk_drew ?_ | refine blk_alloc ?_ _)); exact BK260.out⟩, ⟨by (with_reducible repeat (first | refine blk_drewN ?_ _ | refine blk_drew ?_ | refine blk_alloc ?_ _)); exact BK266.out⟩, ⟨by repeat (first | (with_reducible first | exact HB.out | apply below_alloc | apply pw_below_drewN | apply below_drew1 | refine below_set ?_ GE259.out | refine below_set ?_ GE260.out | refine below_set ?_ GE266.out) | exact HB.out)⟩⟩
                          case rest =>
                            clear HC30
                            try clear c1
                            try clear c2
                            try clear p2
                            try clear c3
                            try clear c4
                            try clear c5
                            try clear p6
                            try clear c7
                            try clear c7b0
                            try clear c7b1
                            try clear c11
                            try clear c13
                            try clear c15
                            try clear c17
                            try clear c18
                            try clear c19
                            try clear c21
                            try clear c22
                            try clear c24
                            try clear c24b0
                            try clear c25
                            try clear c25b0
                            try clear c25b1
                            try clear c28
                            try clear c28b0
                            try clear c29
                            try clear c29b0
                            try clear c29b1
                            try clear c31
                            try clear c32
                            try clear c42
                            try clear c44
                            try clear c45
                            try clear c48
                            try clear c52
                            try clear c53
                            try clear hcz12_0
                            try clear hcz12_1
                            try clear hcz12_2
                            try clear hcz12_3
                            try clear hcz12_4
                            try clear hcz12_5
                            try clear hcz23_0
                            try clear hcz23_1
                            try clear hcz23_2
                            try clear hcz23_3
                            try clear hcz23_4
                            try clear hcz23_5
                            try clear hcz32_0
                            try clear hcz32_1
                            try clear hcz32_2
                            try clear hcz32_3
                            try clear hcz32_4
                            try clear hcz32_5
                            try clear hcz46_0
                            try clear hcz46_1
                            try clear hcz46_2
                            try clear hcz46_3
                            try clear hcz46_4
                            try clear hcz46_5
                            try clear hcz49_0
                            try clear hcz49_1
                            try clear hcz49_2
                            try clear hcz49_3
                            try clear hcz49_4
                            try clear hcz49_5
                            try clear hcz50_0
                            try clear hcz50_1
                            try clear hcz50_2
                            try clear hcz50_3
                            try clear hcz50_4
                            try clear hcz50_5
                            try clear hcz54_0
                            try clear hcz54_1
                            try clear hcz54_2
                            try clear hcz54_3
                            try clear hcz54_4
                            try clear hcz54_5
                            try clear hfz12_0
                            try clear hfz12_1
                            try clear hfz12_2
                            try clear hfz12_3
                            try clear hfz12_4
                            try clear hfz12_5
                            try clear hfz23_0
                            try clear hfz23_1
                            try clear hfz23_2
                            try clear hfz23_3
                            try clear hfz23_4
                            try clear hfz23_5
                            try clear hfz32_0
                            try clear hfz32_1
                            try clear hfz32_2
                            try clear hfz32_3
                            try clear hfz32_4
                            try clear hfz32_5
                            try clear hfz46_0
                            try clear hfz46_1
                            try clear hfz46_2
                            try clear hfz46_3
                            try clear hfz46_4
                            try clear hfz46_5
                            try clear hfz49_0
                            try clear hfz49_1
                            try clear hfz49_2
                            try clear hfz49_3
                            try clear hfz49_4
                            try clear hfz49_5
                            try clear hfz50_0
                            try clear hfz50_1
                            try clear hfz50_2
                            try clear hfz50_3
                            try clear hfz50_4
                            try clear hfz50_5
                            try clear hfz54_0
                            try clear hfz54_1
                            try clear hfz54_2
                            try clear hfz54_3
                            try clear hfz54_4
                            try clear hfz54_5
                            try clear p2
                            try clear p6
                            obtain ⟨kq, x77_29, rfl, HA, HJ29, BK259, BK260, BK266, HB⟩ := hcut
                            cases kq with
                            | zero => exact absurd HA.out (by simp [gangsawref42_Plan.j3])
                            | succ kj29 =>
                              have H := HA.out
                              clear HA
                              simp only [gangsawref42_Plan.j3] at H
                              by_cases c56 : x77_29 = true
                              · subst c56
                                have H1 : (some (x13_2, (wrap64 (Int.tdiv a1 x13_2)), (Int.tmod a1 x13_2), x14_3, a3, a4, 0)) = some (r1, r2, r3, r4, r5, r6, r7) := by rw [if_pos rfl] at H; exact H
                                clear H
                                have H := H1
                                clear H1
                                simp only [Option.some.injEq, Prod.mk.injEq] at H
                                obtain ⟨rfl, rfl, rfl, rfl, rfl, rfl, rfl⟩ := H
                                have hnb57 := NB266_259.out
                                have hnc57 := NB259_266.out
                                have hnb58 := NB266_260.out
                                have hnc58 := NB260_266.out
                                have hcz59_0 : wc.cell? ⟨gb266, 0, none⟩ = some (.int .i64 x13_2) := (blk_cell BK266.out 0).trans rfl
                                have hcz59_1 : wc.cell? ⟨gb266, 1, none⟩ = some (.int .i64 (wrap64 (Int.tdiv a1 x13_2))) := (blk_cell BK266.out 1).trans rfl
                                have hcz59_2 : wc.cell? ⟨gb266, 2, none⟩ = some (.int .i64 (Int.tmod a1 x13_2)) := (blk_cell BK266.out 2).trans rfl
                                have hcz59_3 : wc.cell? ⟨gb266, 3, none⟩ = some (.int .i64 x14_3) := (blk_cell BK266.out 3).trans rfl
                                have hcz59_4 : wc.cell? ⟨gb266, 4, none⟩ = some (.int .i64 a3) := (blk_cell BK266.out 4).trans rfl
                                have hcz59_5 : wc.cell? ⟨gb266, 5, none⟩ = some (.int .i64 a4) := (blk_cell BK266.out 5).trans rfl
                                have hfz59_0 := blk_frozen BK266.out 0
                                have hfz59_1 := blk_frozen BK266.out 1
                                have hfz59_2 := blk_frozen BK266.out 2
                                have hfz59_3 := blk_frozen BK266.out 3
                                have hfz59_4 := blk_frozen BK266.out 4
                                have hfz59_5 := blk_frozen BK266.out 5
                                have hnb60 := NB260_259.out
                                have hnc60 := NB259_260.out
                                have hcz61_0 : wc.cell? ⟨gb260, 0, none⟩ = some (.int .i64 x261000_3) := (blk_cell BK260.out 0).trans rfl
                                have hcz61_1 : wc.cell? ⟨gb260, 1, none⟩ = some (.int .i64 x261001_3) := (blk_cell BK260.out 1).trans rfl
                                have hcz61_2 : wc.cell? ⟨gb260, 2, none⟩ = some (.int .i64 x261002_3) := (blk_cell BK260.out 2).trans rfl
                                have hcz61_3 : wc.cell? ⟨gb260, 3, none⟩ = some (.int .i64 x261003_3) := (blk_cell BK260.out 3).trans rfl
                                have hcz61_4 : wc.cell? ⟨gb260, 4, none⟩ = some (.int .i64 x261004_3) := (blk_cell BK260.out 4).trans rfl
                                have hcz61_5 : wc.cell? ⟨gb260, 5, none⟩ = some (.int .i64 x261005_3) := (blk_cell BK260.out 5).trans rfl
                                have hfz61_0 := blk_frozen BK260.out 0
                                have hfz61_1 := blk_frozen BK260.out 1
                                have hfz61_2 := blk_frozen BK260.out 2
                                have hfz61_3 := blk_frozen BK260.out 3
                                have hfz61_4 := blk_frozen BK260.out 4
                                have hfz61_5 := blk_frozen BK260.out 5
                                go_wp2
                                refine bodyPost_ret (results_ct rfl _ _ gb260 27 #[.int .i64 x13_2, .int .i64 (wrap64 (Int.tdiv a1 x13_2)), .int .i64 (Int.tmod a1 x13_2), .int .i64 x14_3, .int .i64 a3, .int .i64 a4] (0, 0) _ rfl (by (with_reducible repeat (first | refine blk_drewN ?_ _ | refine blk_drew ?_ | refine blk_alloc ?_ _)); refine blk_put (cs := #[.int .i64 x13_2, .int .i64 (wrap64 (Int.tdiv a1 x13_2)), .int .i64 (Int.tmod a1 x13_2), .int .i64 x14_3, .int .i64 a3, .int .i64 x261005_3]) ?_ 5 _ rfl; (with_reducible repeat (first | refine blk_drewN ?_ _ | refine blk_drew ?_ | refine blk_alloc ?_ _)); refine blk_put (cs := #[.int .i64 x13_2, .int .i64 (wrap64 (Int.tdiv a1 x13_2)), .int .i64 (Int.tmod a1 x13_2), .int .i64 x14_3, .int .i64 x261004_3, .int .i64 x261005_3]) ?_ 4 _ rfl; (with_reducible repeat (first | refine blk_drewN ?_ _ | refine blk_drew ?_ | refine blk_alloc ?_ _)); refine blk_put (cs := #[.int .i64 x13_2, .int .i64 (wrap64 (Int.tdiv a1 x13_2)), .int .i64 (Int.tmod a1 x13_2), .int .i64 x261003_3, .int .i64 x261004_3, .int .i64 x261005_3]) ?_ 3 _ rfl; (with_reducible repeat (first | refine blk_drewN ?_ _ | refine blk_drew ?_ | refine blk_alloc ?_ _)); refine blk_put (cs := #[.int .i64 x13_2, .int .i64 (wrap64 (Int.tdiv a1 x13_2)), .int .i64 x261002_3, .int .i64 x261003_3, .int .i64 x261004_3, .int .i64 x261005_3]) ?_ 2 _ rfl; (with_reducible repeat (first | refine blk_drewN ?_ _ | refine blk_drew ?_ | refine blk_alloc ?_ _)); refine blk_put (cs := #[.int .i64 x13_2, .int .i64 x261001_3, .int .i64 x261002_3, .int .i64 x261003_3, .int .i64 x261004_3, .int .i64 x261005_3]) ?_ 1 _ rfl; (with_reducible repeat (first | refine blk_drewN ?_ _ | refine blk_drew ?_ | refine blk_alloc ?_ _)); refine blk_put (cs := #[.int .i64 x261000_3, .int .i64 x261001_3, .int .i64 x261002_3, .int .i64 x261003_3, .int .i64 x261004_3, .int .i64 x261005_3]) ?_ 0 _ rfl; (with_reducible repeat (first | refine blk_drewN ?_ _ | refine blk_drew ?_ | refine blk_alloc ?_ _)); exact BK260.out) Try.underlying27 rfl (by kernel_rfl)) rfl ?_
                                exact ⟨by first | rfl | (simp [errW_none, errW_some] <;> rfl) | (simp only [← hji26]; first | rfl | (simp [errW_none, errW_some] <;> rfl)) | (simp [*, errW_none, errW_some] <;> rfl), by repeat (first | (with_reducible first | exact HB.out | apply below_alloc | apply pw_below_drewN | apply below_drew1 | refine below_set ?_ GE259.out | refine below_set ?_ GE260.out | refine below_set ?_ GE266.out) | exact HB.out)⟩
                              · replace c56 := Bool.eq_false_iff.mpr c56
                                subst c56
                                have H1 : ((gangsawref42_Valid.f x13_2 (wrap64 (Int.tdiv a1 x13_2)) (Int.tmod a1 x13_2) x14_3 a3 a4).bind fun t269 => (if t269 = true then ((gangsawref42_Keeps.f kj29 a0_0 a0_1 a0_2 a0_3 a0_4 a0_5 x13_2 (wrap64 (Int.tdiv a1 x13_2)) (Int.tmod a1 x13_2) x14_3 a3 a4).bind fun t270 => (if t270 = 6 then (gangsawref42_Plan.l0 kj29 a1 a2 a3 a4 (wrap64 (x13_2 + 1)) a0_0 a0_1 a0_2 a0_3 a0_4 a0_5) else (gangsawref42_Plan.l1 kj29 a1 a2 a3 a4 x13_2 (wrap64 (x14_3 - 1)) a0_0 a0_1 a0_2 a0_3 a0_4 a0_5))) else (gangsawref42_Plan.l0 kj29 a1 a2 a3 a4 (wrap64 (x13_2 + 1)) a0_0 a0_1 a0_2 a0_3 a0_4 a0_5))) = some (r1, r2, r3, r4, r5, r6, r7) := by rw [if_neg (show ¬ (false = true) by decide)] at H; exact H
                                clear H
                                have H := H1
                                clear H1
                                replace H := Option.bind_eq_some_iff.mp H
                                obtain ⟨t269, A620, H⟩ := H
                                replace H : (if t269 = true then ((gangsawref42_Keeps.f kj29 a0_0 a0_1 a0_2 a0_3 a0_4 a0_5 x13_2 (wrap64 (Int.tdiv a1 x13_2)) (Int.tmod a1 x13_2) x14_3 a3 a4).bind fun t270 => (if t270 = 6 then (gangsawref42_Plan.l0 kj29 a1 a2 a3 a4 (wrap64 (x13_2 + 1)) a0_0 a0_1 a0_2 a0_3 a0_4 a0_5) else (gangsawref42_Plan.l1 kj29 a1 a2 a3 a4 x13_2 (wrap64 (x14_3 - 1)) a0_0 a0_1 a0_2 a0_3 a0_4 a0_5))) else (gangsawref42_Plan.l0 kj29 a1 a2 a3 a4 (wrap64 (x13_2 + 1)) a0_0 a0_1 a0_2 a0_3 a0_4 a0_5)) = some (r1, r2, r3, r4, r5, r6, r7) := H
                                have A62 := Aside0.mk A620
                                clear A620
                                by_cases c63 : t269 = true
                                · subst c63
                                  have H1 : ((gangsawref42_Keeps.f kj29 a0_0 a0_1 a0_2 a0_3 a0_4 a0_5 x13_2 (wrap64 (Int.tdiv a1 x13_2)) (Int.tmod a1 x13_2) x14_3 a3 a4).bind fun t270 => (if t270 = 6 then (gangsawref42_Plan.l0 kj29 a1 a2 a3 a4 (wrap64 (x13_2 + 1)) a0_0 a0_1 a0_2 a0_3 a0_4 a0_5) else (gangsawref42_Plan.l1 kj29 a1 a2 a3 a4 x13_2 (wrap64 (x14_3 - 1)) a0_0 a0_1 a0_2 a0_3 a0_4 a0_5))) = some (r1, r2, r3, r4, r5, r6, r7) := by rw [if_pos rfl] at H; exact H
                                  clear H
                                  have H := H1
                                  clear H1
                                  replace H := Option.bind_eq_some_iff.mp H
                                  obtain ⟨t270, A640, H⟩ := H
                                  replace H : (if t270 = 6 then (gangsawref42_Plan.l0 kj29 a1 a2 a3 a4 (wrap64 (x13_2 + 1)) a0_0 a0_1 a0_2 a0_3 a0_4 a0_5) else (gangsawref42_Plan.l1 kj29 a1 a2 a3 a4 x13_2 (wrap64 (x14_3 - 1)) a0_0 a0_1 a0_2 a0_3 a0_4 a0_5)) = some (r1, r2, r3, r4, r5, r6, r7) := H
                                  have A64 := Aside0.mk A640
                                  clear A640
                                  by_cases c65 : t270 = 6
                                  · rw [if_pos c65] at H
                                    have c65b0 : (t270 == 6) = true := beq_iff_eq.mpr c65
                                    have c65b1 : (t270 != 6) = false := bne_eq_false_iff_eq.mpr c65
                                    clear c65
                                    have H' := Aside0.mk H
                                    clear H
                                    have hnb66 := NB266_259.out
                                    have hnc66 := NB259_266.out
                                    have hnb67 := NB266_260.out
                                    have hnc67 := NB260_266.out
                                    have hcz68_0 : wc.cell? ⟨gb266, 0, none⟩ = some (.int .i64 x13_2) := (blk_cell BK266.out 0).trans rfl
                                    have hcz68_1 : wc.cell? ⟨gb266, 1, none⟩ = some (.int .i64 (wrap64 (Int.tdiv a1 x13_2))) := (blk_cell BK266.out 1).trans rfl
                                    have hcz68_2 : wc.cell? ⟨gb266, 2, none⟩ = some (.int .i64 (Int.tmod a1 x13_2)) := (blk_cell BK266.out 2).trans rfl
                                    have hcz68_3 : wc.cell? ⟨gb266, 3, none⟩ = some (.int .i64 x14_3) := (blk_cell BK266.out 3).trans rfl
                                    have hcz68_4 : wc.cell? ⟨gb266, 4, none⟩ = some (.int .i64 a3) := (blk_cell BK266.out 4).trans rfl
                                    have hcz68_5 : wc.cell? ⟨gb266, 5, none⟩ = some (.int .i64 a4) := (blk_cell BK266.out 5).trans rfl
                                    have hfz68_0 := blk_frozen BK266.out 0
                                    have hfz68_1 := blk_frozen BK266.out 1
                                    have hfz68_2 := blk_frozen BK266.out 2
                                    have hfz68_3 := blk_frozen BK266.out 3
                                    have hfz68_4 := blk_frozen BK266.out 4
                                    have hfz68_5 := blk_frozen BK266.out 5
                                    go_wp2_with (first | ((with_reducible refine gate_callee (f := 18) rfl ?_); refine goesL_ (some 80) rfl rfl Try.func18 (by kernel_rfl) rfl #[.agg #[.int .i64 x13_2, .int .i64 (wrap64 (Int.tdiv a1 x13_2)), .int .i64 (Int.tmod a1 x13_2), .int .i64 x14_3, .int .i64 a3, .int .i64 a4]] rfl (by (try simp only [List.map_toArray, List.map_cons, List.map_nil]); first | done | rfl | (simp only [List.length_drop, List.length_take]; rfl)) ?_; (with_reducible refine (gangsawref42_Valid.calls x13_2 (wrap64 (Int.tdiv a1 x13_2)) (Int.tmod a1 x13_2) x14_3 a3 a4 true _ A62.out).mono ?_); rintro e w69 ⟨rfl, hb⟩; refine ⟨_, rfl, ?_⟩; have n0_ := Aside0.mk (blk_below (g := gb259) (o := .cells #[.int .i64 a0_0, .int .i64 a0_1, .int .i64 a0_2, .int .i64 a0_3, .int .i64 a0_4, .int .i64 a0_5] 25 (0, 0)) (by (with_reducible repeat (first | refine blk_drewN ?_ _ | refine blk_drew ?_ | refine blk_alloc ?_ _)); exact BK259.out) hb); have n1_ := Aside0.mk (blk_below (g := gb260) (o := .cells #[.int .i64 x261000_3, .int .i64 x261001_3, .int .i64 x261002_3, .int .i64 x261003_3, .int .i64 x261004_3, .int .i64 x261005_3] 27 (0, 0)) (by (with_reducible repeat (first | refine blk_drewN ?_ _ | refine blk_drew ?_ | refine blk_alloc ?_ _)); exact BK260.out) hb); have n2_ := Aside0.mk (blk_below (g := gb266) (o := .cells #[.int .i64 x13_2, .int .i64 (wrap64 (Int.tdiv a1 x13_2)), .int .i64 (Int.tmod a1 x13_2), .int .i64 x14_3, .int .i64 a3, .int .i64 a4] 27 (0, 0)) (by (with_reducible repeat (first | refine blk_drewN ?_ _ | refine blk_drew ?_ | refine blk_alloc ?_ _)); exact BK266.out) hb); have n3_ := Aside0.mk (below_step (by repeat (first | (with_reducible first | exact HB.out | apply below_alloc | apply pw_below_drewN | apply below_drew1 | refine below_set ?_ GE259.out | refine below_set ?_ GE260.out | refine below_set ?_ GE266.out) | exact HB.out)) hb); clear BK259; clear BK260; clear BK266; clear HB; have BK259 := n0_; have BK260 := n1_; have BK266 := n2_; have HB := n3_; clear n0_ n1_ n2_ n3_; (try clear hb); (try clear hb2); (try clear hk); (try clear hi); have hnb70 := NB259_260.out; have hnc70 := NB260_259.out; have hcz71_0 : w69.cell? ⟨gb259, 0, none⟩ = some (.int .i64 a0_0) := (blk_cell BK259.out 0).trans rfl; have hcz71_1 : w69.cell? ⟨gb259, 1, none⟩ = some (.int .i64 a0_1) := (blk_cell BK259.out 1).trans rfl; have hcz71_2 : w69.cell? ⟨gb259, 2, none⟩ = some (.int .i64 a0_2) := (blk_cell BK259.out 2).trans rfl; have hcz71_3 : w69.cell? ⟨gb259, 3, none⟩ = some (.int .i64 a0_3) := (blk_cell BK259.out 3).trans rfl; have hcz71_4 : w69.cell? ⟨gb259, 4, none⟩ = some (.int .i64 a0_4) := (blk_cell BK259.out 4).trans rfl; have hcz71_5 : w69.cell? ⟨gb259, 5, none⟩ = some (.int .i64 a0_5) := (blk_cell BK259.out 5).trans rfl; have hfz71_0 := blk_frozen BK259.out 0; have hfz71_1 := blk_frozen BK259.out 1; have hfz71_2 := blk_frozen BK259.out 2; have hfz71_3 := blk_frozen BK259.out 3; have hfz71_4 := blk_frozen BK259.out 4; have hfz71_5 := blk_frozen BK259.out 5; have hcz72_0 : w69.cell? ⟨gb266, 0, none⟩ = some (.int .i64 x13_2) := (blk_cell BK266.out 0).trans rfl; have hcz72_1 : w69.cell? ⟨gb266, 1, none⟩ = some (.int .i64 (wrap64 (Int.tdiv a1 x13_2))) := (blk_cell BK266.out 1).trans rfl; have hcz72_2 : w69.cell? ⟨gb266, 2, none⟩ = some (.int .i64 (Int.tmod a1 x13_2)) := (blk_cell BK266.out 2).trans rfl; have hcz72_3 : w69.cell? ⟨gb266, 3, none⟩ = some (.int .i64 x14_3) := (blk_cell BK266.out 3).trans rfl; have hcz72_4 : w69.cell? ⟨gb266, 4, none⟩ = some (.int .i64 a3) := (blk_cell BK266.out 4).trans rfl; have hcz72_5 : w69.cell? ⟨gb266, 5, none⟩ = some (.int .i64 a4) := (blk_cell BK266.out 5).trans rfl; have hfz72_0 := blk_frozen BK266.out 0; have hfz72_1 := blk_frozen BK266.out 1; have hfz72_2 := blk_frozen BK266.out 2; have hfz72_3 := blk_frozen BK266.out 3; have hfz72_4 := blk_frozen BK266.out 4; have hfz72_5 := blk_frozen BK266.out 5) | (go_at_call 36; (with_reducible refine (gangsawref42_Keeps.calls kj29 a0_0 a0_1 a0_2 a0_3 a0_4 a0_5 x13_2 (wrap64 (Int.tdiv a1 x13_2)) (Int.tmod a1 x13_2) x14_3 a3 a4 t270 _ A64.out).mono ?_); rintro e w73 ⟨rfl, hb⟩; have n0_ := Aside0.mk (blk_below (g := gb259) (o := .cells #[.int .i64 a0_0, .int .i64 a0_1, .int .i64 a0_2, .int .i64 a0_3, .int .i64 a0_4, .int .i64 a0_5] 25 (0, 0)) (by (with_reducible repeat (first | refine blk_drewN ?_ _ | refine blk_drew ?_ | refine blk_alloc ?_ _)); exact BK259.out) hb); have n1_ := Aside0.mk (blk_below (g := gb260) (o := .cells #[.int .i64 x261000_3, .int .i64 x261001_3, .int .i64 x261002_3, .int .i64 x261003_3, .int .i64 x261004_3, .int .i64 x261005_3] 27 (0, 0)) (by (with_reducible repeat (first | refine blk_drewN ?_ _ | refine blk_drew ?_ | refine blk_alloc ?_ _)); exact BK260.out) hb); have n2_ := Aside0.mk (blk_below (g := gb266) (o := .cells #[.int .i64 x13_2, .int .i64 (wrap64 (Int.tdiv a1 x13_2)), .int .i64 (Int.tmod a1 x13_2), .int .i64 x14_3, .int .i64 a3, .int .i64 a4] 27 (0, 0)) (by (with_reducible repeat (first | refine blk_drewN ?_ _ | refine blk_drew ?_ | refine blk_alloc ?_ _)); exact BK266.out) hb); have n3_ := Aside0.mk (below_step (by repeat (first | (with_reducible first | exact HB.out | apply below_alloc | apply pw_below_drewN | apply below_drew1 | refine below_set ?_ GE259.out | refine below_set ?_ GE260.out | refine below_set ?_ GE266.out) | exact HB.out)) hb); clear BK259; clear BK260; clear BK266; clear HB; have BK259 := n0_; have BK260 := n1_; have BK266 := n2_; have HB := n3_; clear n0_ n1_ n2_ n3_; (try clear hb); (try clear hb2); (try clear hk); (try clear hi)))
                                    go_roundg kj29
                                    case measure => have := HJ7.out; have := HK2.out; have := HK3.out; have := HJ29.out; omega
                                    case rel => exact ⟨(wrap64 (x13_2 + 1)), (x261000_3), (x261001_3), (x261002_3), (x261003_3), (x261004_3), (x261005_3), (by first | rfl | (simp; done) | (simp [*]; done)), H', ⟨by have := HJ7.out; have := HK2.out; have := HK3.out; have := HJ29.out; omega⟩, ⟨by (with_reducible repeat (first | refine blk_drewN ?_ _ | refine blk_drew ?_ | refine blk_alloc ?_ _)); exact BK259.out⟩, ⟨by (with_reducible repeat (first | refine blk_drewN ?_ _ | refine blk_drew ?_ | refine blk_alloc ?_ _)); exact BK260.out⟩, ⟨by repeat (first | (with_reducible first | exact HB.out | apply below_alloc | apply pw_below_drewN | apply below_drew1 | refine below_set ?_ GE259.out | refine below_set ?_ GE260.out | refine below_set ?_ GE266.out) | exact HB.out)⟩⟩
                                  · rw [if_neg c65] at H
                                    have c65b0 : (t270 == 6) = false := beq_eq_false_iff_ne.mpr c65
                                    have c65b1 : (t270 != 6) = true := bne_iff_ne.mpr c65
                                    have H' := Aside0.mk H
                                    clear H
                                    have hnb74 := NB266_259.out
                                    have hnc74 := NB259_266.out
                                    have hnb75 := NB266_260.out
                                    have hnc75 := NB260_266.out
                                    have hcz76_0 : wc.cell? ⟨gb266, 0, none⟩ = some (.int .i64 x13_2) := (blk_cell BK266.out 0).trans rfl
                                    have hcz76_1 : wc.cell? ⟨gb266, 1, none⟩ = some (.int .i64 (wrap64 (Int.tdiv a1 x13_2))) := (blk_cell BK266.out 1).trans rfl
                                    have hcz76_2 : wc.cell? ⟨gb266, 2, none⟩ = some (.int .i64 (Int.tmod a1 x13_2)) := (blk_cell BK266.out 2).trans rfl
                                    have hcz76_3 : wc.cell? ⟨gb266, 3, none⟩ = some (.int .i64 x14_3) := (blk_cell BK266.out 3).trans rfl
                                    have hcz76_4 : wc.cell? ⟨gb266, 4, none⟩ = some (.int .i64 a3) := (blk_cell BK266.out 4).trans rfl
                                    have hcz76_5 : wc.cell? ⟨gb266, 5, none⟩ = some (.int .i64 a4) := (blk_cell BK266.out 5).trans rfl
                                    have hfz76_0 := blk_frozen BK266.out 0
                                    have hfz76_1 := blk_frozen BK266.out 1
                                    have hfz76_2 := blk_frozen BK266.out 2
                                    have hfz76_3 := blk_frozen BK266.out 3
                                    have hfz76_4 := blk_frozen BK266.out 4
                                    have hfz76_5 := blk_frozen BK266.out 5
                                    go_wp2_with (first | ((with_reducible refine gate_callee (f := 18) rfl ?_); refine goesL_ (some 80) rfl rfl Try.func18 (by kernel_rfl) rfl #[.agg #[.int .i64 x13_2, .int .i64 (wrap64 (Int.tdiv a1 x13_2)), .int .i64 (Int.tmod a1 x13_2), .int .i64 x14_3, .int .i64 a3, .int .i64 a4]] rfl (by (try simp only [List.map_toArray, List.map_cons, List.map_nil]); first | done | rfl | (simp only [List.length_drop, List.length_take]; rfl)) ?_; (with_reducible refine (gangsawref42_Valid.calls x13_2 (wrap64 (Int.tdiv a1 x13_2)) (Int.tmod a1 x13_2) x14_3 a3 a4 true _ A62.out).mono ?_); rintro e w77 ⟨rfl, hb⟩; refine ⟨_, rfl, ?_⟩; have n0_ := Aside0.mk (blk_below (g := gb259) (o := .cells #[.int .i64 a0_0, .int .i64 a0_1, .int .i64 a0_2, .int .i64 a0_3, .int .i64 a0_4, .int .i64 a0_5] 25 (0, 0)) (by (with_reducible repeat (first | refine blk_drewN ?_ _ | refine blk_drew ?_ | refine blk_alloc ?_ _)); exact BK259.out) hb); have n1_ := Aside0.mk (blk_below (g := gb260) (o := .cells #[.int .i64 x261000_3, .int .i64 x261001_3, .int .i64 x261002_3, .int .i64 x261003_3, .int .i64 x261004_3, .int .i64 x261005_3] 27 (0, 0)) (by (with_reducible repeat (first | refine blk_drewN ?_ _ | refine blk_drew ?_ | refine blk_alloc ?_ _)); exact BK260.out) hb); have n2_ := Aside0.mk (blk_below (g := gb266) (o := .cells #[.int .i64 x13_2, .int .i64 (wrap64 (Int.tdiv a1 x13_2)), .int .i64 (Int.tmod a1 x13_2), .int .i64 x14_3, .int .i64 a3, .int .i64 a4] 27 (0, 0)) (by (with_reducible repeat (first | refine blk_drewN ?_ _ | refine blk_drew ?_ | refine blk_alloc ?_ _)); exact BK266.out) hb); have n3_ := Aside0.mk (below_step (by repeat (first | (with_reducible first | exact HB.out | apply below_alloc | apply pw_below_drewN | apply below_drew1 | refine below_set ?_ GE259.out | refine below_set ?_ GE260.out | refine below_set ?_ GE266.out) | exact HB.out)) hb); clear BK259; clear BK260; clear BK266; clear HB; have BK259 := n0_; have BK260 := n1_; have BK266 := n2_; have HB := n3_; clear n0_ n1_ n2_ n3_; (try clear hb); (try clear hb2); (try clear hk); (try clear hi); have hnb78 := NB259_260.out; have hnc78 := NB260_259.out; have hcz79_0 : w77.cell? ⟨gb259, 0, none⟩ = some (.int .i64 a0_0) := (blk_cell BK259.out 0).trans rfl; have hcz79_1 : w77.cell? ⟨gb259, 1, none⟩ = some (.int .i64 a0_1) := (blk_cell BK259.out 1).trans rfl; have hcz79_2 : w77.cell? ⟨gb259, 2, none⟩ = some (.int .i64 a0_2) := (blk_cell BK259.out 2).trans rfl; have hcz79_3 : w77.cell? ⟨gb259, 3, none⟩ = some (.int .i64 a0_3) := (blk_cell BK259.out 3).trans rfl; have hcz79_4 : w77.cell? ⟨gb259, 4, none⟩ = some (.int .i64 a0_4) := (blk_cell BK259.out 4).trans rfl; have hcz79_5 : w77.cell? ⟨gb259, 5, none⟩ = some (.int .i64 a0_5) := (blk_cell BK259.out 5).trans rfl; have hfz79_0 := blk_frozen BK259.out 0; have hfz79_1 := blk_frozen BK259.out 1; have hfz79_2 := blk_frozen BK259.out 2; have hfz79_3 := blk_frozen BK259.out 3; have hfz79_4 := blk_frozen BK259.out 4; have hfz79_5 := blk_frozen BK259.out 5; have hcz80_0 : w77.cell? ⟨gb266, 0, none⟩ = some (.int .i64 x13_2) := (blk_cell BK266.out 0).trans rfl; have hcz80_1 : w77.cell? ⟨gb266, 1, none⟩ = some (.int .i64 (wrap64 (Int.tdiv a1 x13_2))) := (blk_cell BK266.out 1).trans rfl; have hcz80_2 : w77.cell? ⟨gb266, 2, none⟩ = some (.int .i64 (Int.tmod a1 x13_2)) := (blk_cell BK266.out 2).trans rfl; have hcz80_3 : w77.cell? ⟨gb266, 3, none⟩ = some (.int .i64 x14_3) := (blk_cell BK266.out 3).trans rfl; have hcz80_4 : w77.cell? ⟨gb266, 4, none⟩ = some (.int .i64 a3) := (blk_cell BK266.out 4).trans rfl; have hcz80_5 : w77.cell? ⟨gb266, 5, none⟩ = some (.int .i64 a4) := (blk_cell BK266.out 5).trans rfl; have hfz80_0 := blk_frozen BK266.out 0; have hfz80_1 := blk_frozen BK266.out 1; have hfz80_2 := blk_frozen BK266.out 2; have hfz80_3 := blk_frozen BK266.out 3; have hfz80_4 := blk_frozen BK266.out 4; have hfz80_5 := blk_frozen BK266.out 5) | (go_at_call 36; (with_reducible refine (gangsawref42_Keeps.calls kj29 a0_0 a0_1 a0_2 a0_3 a0_4 a0_5 x13_2 (wrap64 (Int.tdiv a1 x13_2)) (Int.tmod a1 x13_2) x14_3 a3 a4 t270 _ A64.out).mono ?_); rintro e w81 ⟨rfl, hb⟩; have n0_ := Aside0.mk (blk_below (g := gb259) (o := .cells #[.int .i64 a0_0, .int .i64 a0_1, .int .i64 a0_2, .int .i64 a0_3, .int .i64 a0_4, .int .i64 a0_5] 25 (0, 0)) (by (with_reducible repeat (first | refine blk_drewN ?_ _ | refine blk_drew ?_ | refine blk_alloc ?_ _)); exact BK259.out) hb); have n1_ := Aside0.mk (blk_below (g := gb260) (o := .cells #[.int .i64 x261000_3, .int .i64 x261001_3, .int .i64 x261002_3, .int .i64 x261003_3, .int .i64 x261004_3, .int .i64 x261005_3] 27 (0, 0)) (by (with_reducible repeat (first | refine blk_drewN ?_ _ | refine blk_drew ?_ | refine blk_alloc ?_ _)); exact BK260.out) hb); have n2_ := Aside0.mk (blk_below (g := gb266) (o := .cells #[.int .i64 x13_2, .int .i64 (wrap64 (Int.tdiv a1 x13_2)), .int .i64 (Int.tmod a1 x13_2), .int .i64 x14_3, .int .i64 a3, .int .i64 a4] 27 (0, 0)) (by (with_reducible repeat (first | refine blk_drewN ?_ _ | refine blk_drew ?_ | refine blk_alloc ?_ _)); exact BK266.out) hb); have n3_ := Aside0.mk (below_step (by repeat (first | (with_reducible first | exact HB.out | apply below_alloc | apply pw_below_drewN | apply below_drew1 | refine below_set ?_ GE259.out | refine below_set ?_ GE260.out | refine below_set ?_ GE266.out) | exact HB.out)) hb); clear BK259; clear BK260; clear BK266; clear HB; have BK259 := n0_; have BK260 := n1_; have BK266 := n2_; have HB := n3_; clear n0_ n1_ n2_ n3_; (try clear hb); (try clear hb2); (try clear hk); (try clear hi)))
                                    go_roundg kj29
                                    case measure => have := HJ7.out; have := HK2.out; have := HK3.out; have := HJ29.out; omega
                                    case rel => exact ⟨(wrap64 (x14_3 - 1)), (x261000_3), (x261001_3), (x261002_3), (x261003_3), (x261004_3), (x261005_3), (by first | rfl | (simp; done) | (simp [*]; done)), H', ⟨by have := HJ7.out; have := HK2.out; have := HK3.out; have := HJ29.out; omega⟩, ⟨by (with_reducible repeat (first | refine blk_drewN ?_ _ | refine blk_drew ?_ | refine blk_alloc ?_ _)); exact BK259.out⟩, ⟨by (with_reducible repeat (first | refine blk_drewN ?_ _ | refine blk_drew ?_ | refine blk_alloc ?_ _)); exact BK260.out⟩, ⟨by repeat (first | (with_reducible first | exact HB.out | apply below_alloc | apply pw_below_drewN | apply below_drew1 | refine below_set ?_ GE259.out | refine below_set ?_ GE260.out | refine below_set ?_ GE266.out) | exact HB.out)⟩⟩
                                · replace c63 := Bool.eq_false_iff.mpr c63
                                  subst c63
                                  have H1 : (gangsawref42_Plan.l0 kj29 a1 a2 a3 a4 (wrap64 (x13_2 + 1)) a0_0 a0_1 a0_2 a0_3 a0_4 a0_5) = some (r1, r2, r3, r4, r5, r6, r7) := by rw [if_neg (show ¬ (false = true) by decide)] at H; exact H
                                  clear H
                                  have H := H1
                                  clear H1
                                  have H' := Aside0.mk H
                                  clear H
                                  have hnb82 := NB266_259.out
                                  have hnc82 := NB259_266.out
                                  have hnb83 := NB266_260.out
                                  have hnc83 := NB260_266.out
                                  have hcz84_0 : wc.cell? ⟨gb266, 0, none⟩ = some (.int .i64 x13_2) := (blk_cell BK266.out 0).trans rfl
                                  have hcz84_1 : wc.cell? ⟨gb266, 1, none⟩ = some (.int .i64 (wrap64 (Int.tdiv a1 x13_2))) := (blk_cell BK266.out 1).trans rfl
                                  have hcz84_2 : wc.cell? ⟨gb266, 2, none⟩ = some (.int .i64 (Int.tmod a1 x13_2)) := (blk_cell BK266.out 2).trans rfl
                                  have hcz84_3 : wc.cell? ⟨gb266, 3, none⟩ = some (.int .i64 x14_3) := (blk_cell BK266.out 3).trans rfl
                                  have hcz84_4 : wc.cell? ⟨gb266, 4, none⟩ = some (.int .i64 a3) := (blk_cell BK266.out 4).trans rfl
                                  have hcz84_5 : wc.cell? ⟨gb266, 5, none⟩ = some (.int .i64 a4) := (blk_cell BK266.out 5).trans rfl
                                  have hfz84_0 := blk_frozen BK266.out 0
                                  have hfz84_1 := blk_frozen BK266.out 1
                                  have hfz84_2 := blk_frozen BK266.out 2
                                  have hfz84_3 := blk_frozen BK266.out 3
                                  have hfz84_4 := blk_frozen BK266.out 4
                                  have hfz84_5 := blk_frozen BK266.out 5
                                  go_wp2_with (first | ((with_reducible refine gate_callee (f := 18) rfl ?_); refine goesL_ (some 80) rfl rfl Try.func18 (by kernel_rfl) rfl #[.agg #[.int .i64 x13_2, .int .i64 (wrap64 (Int.tdiv a1 x13_2)), .int .i64 (Int.tmod a1 x13_2), .int .i64 x14_3, .int .i64 a3, .int .i64 a4]] rfl (by (try simp only [List.map_toArray, List.map_cons, List.map_nil]); first | done | rfl | (simp only [List.length_drop, List.length_take]; rfl)) ?_; (with_reducible refine (gangsawref42_Valid.calls x13_2 (wrap64 (Int.tdiv a1 x13_2)) (Int.tmod a1 x13_2) x14_3 a3 a4 false _ A62.out).mono ?_); rintro e w85 ⟨rfl, hb⟩; refine ⟨_, rfl, ?_⟩; have n0_ := Aside0.mk (blk_below (g := gb259) (o := .cells #[.int .i64 a0_0, .int .i64 a0_1, .int .i64 a0_2, .int .i64 a0_3, .int .i64 a0_4, .int .i64 a0_5] 25 (0, 0)) (by (with_reducible repeat (first | refine blk_drewN ?_ _ | refine blk_drew ?_ | refine blk_alloc ?_ _)); exact BK259.out) hb); have n1_ := Aside0.mk (blk_below (g := gb260) (o := .cells #[.int .i64 x261000_3, .int .i64 x261001_3, .int .i64 x261002_3, .int .i64 x261003_3, .int .i64 x261004_3, .int .i64 x261005_3] 27 (0, 0)) (by (with_reducible repeat (first | refine blk_drewN ?_ _ | refine blk_drew ?_ | refine blk_alloc ?_ _)); exact BK260.out) hb); have n2_ := Aside0.mk (blk_below (g := gb266) (o := .cells #[.int .i64 x13_2, .int .i64 (wrap64 (Int.tdiv a1 x13_2)), .int .i64 (Int.tmod a1 x13_2), .int .i64 x14_3, .int .i64 a3, .int .i64 a4] 27 (0, 0)) (by (with_reducible repeat (first | refine blk_drewN ?_ _ | refine blk_drew ?_ | refine blk_alloc ?_ _)); exact BK266.out) hb); have n3_ := Aside0.mk (below_step (by repeat (first | (with_reducible first | exact HB.out | apply below_alloc | apply pw_below_drewN | apply below_drew1 | refine below_set ?_ GE259.out | refine below_set ?_ GE260.out | refine below_set ?_ GE266.out) | exact HB.out)) hb); clear BK259; clear BK260; clear BK266; clear HB; have BK259 := n0_; have BK260 := n1_; have BK266 := n2_; have HB := n3_; clear n0_ n1_ n2_ n3_; (try clear hb); (try clear hb2); (try clear hk); (try clear hi)))
                                  go_roundg kj29
                                  case measure => have := HJ7.out; have := HK2.out; have := HK3.out; have := HJ29.out; omega
                                  case rel => exact ⟨(wrap64 (x13_2 + 1)), (x261000_3), (x261001_3), (x261002_3), (x261003_3), (x261004_3), (x261005_3), (by first | rfl | (simp; done) | (simp [*]; done)), H', ⟨by have := HJ7.out; have := HK2.out; have := HK3.out; have := HJ29.out; omega⟩, ⟨by (with_reducible repeat (first | refine blk_drewN ?_ _ | refine blk_drew ?_ | refine blk_alloc ?_ _)); exact BK259.out⟩, ⟨by (with_reducible repeat (first | refine blk_drewN ?_ _ | refine blk_drew ?_ | refine blk_alloc ?_ _)); exact BK260.out⟩, ⟨by repeat (first | (with_reducible first | exact HB.out | apply below_alloc | apply pw_below_drewN | apply below_drew1 | refine below_set ?_ GE259.out | refine below_set ?_ GE260.out | refine below_set ?_ GE266.out) | exact HB.out)⟩⟩
                      · rw [if_neg c28] at H
                        have c28b0 : decide (a0_2 ≤ x14_3) = false := decide_eq_false c28
                        clear c28
                        have H' := Aside0.mk H
                        clear H
                        have hnb86 := NB259_260.out
                        have hnc86 := NB260_259.out
                        have hcz87_0 : wr.cell? ⟨gb259, 0, none⟩ = some (.int .i64 a0_0) := (blk_cell BK259.out 0).trans rfl
                        have hcz87_1 : wr.cell? ⟨gb259, 1, none⟩ = some (.int .i64 a0_1) := (blk_cell BK259.out 1).trans rfl
                        have hcz87_2 : wr.cell? ⟨gb259, 2, none⟩ = some (.int .i64 a0_2) := (blk_cell BK259.out 2).trans rfl
                        have hcz87_3 : wr.cell? ⟨gb259, 3, none⟩ = some (.int .i64 a0_3) := (blk_cell BK259.out 3).trans rfl
                        have hcz87_4 : wr.cell? ⟨gb259, 4, none⟩ = some (.int .i64 a0_4) := (blk_cell BK259.out 4).trans rfl
                        have hcz87_5 : wr.cell? ⟨gb259, 5, none⟩ = some (.int .i64 a0_5) := (blk_cell BK259.out 5).trans rfl
                        have hfz87_0 := blk_frozen BK259.out 0
                        have hfz87_1 := blk_frozen BK259.out 1
                        have hfz87_2 := blk_frozen BK259.out 2
                        have hfz87_3 := blk_frozen BK259.out 3
                        have hfz87_4 := blk_frozen BK259.out 4
                        have hfz87_5 := blk_frozen BK259.out 5
                        go_wp2
                        go_roundg k3
                        case measure => have := HJ7.out; have := HK2.out; have := HK3.out; omega
                        case rel => exact ⟨(wrap64 (x13_2 + 1)), (x261000_3), (x261001_3), (x261002_3), (x261003_3), (x261004_3), (x261005_3), (by first | rfl | (simp; done) | (simp [*]; done)), H', ⟨by have := HJ7.out; have := HK2.out; have := HK3.out; omega⟩, ⟨by (with_reducible repeat (first | refine blk_drewN ?_ _ | refine blk_drew ?_ | refine blk_alloc ?_ _)); exact BK259.out⟩, ⟨by (with_reducible repeat (first | refine blk_drewN ?_ _ | refine blk_drew ?_ | refine blk_alloc ?_ _)); exact BK260.out⟩, ⟨by repeat (first | (with_reducible first | exact HB.out | apply below_alloc | apply pw_below_drewN | apply below_drew1 | refine below_set ?_ GE259.out | refine below_set ?_ GE260.out) | exact HB.out)⟩⟩
              · rw [if_neg c24] at H
                have c24b0 : decide (x13_2 ≤ 64) = false := decide_eq_false c24
                clear c24
                simp only [Option.some.injEq, Prod.mk.injEq] at H
                obtain ⟨rfl, rfl, rfl, rfl, rfl, rfl, rfl⟩ := H
                have hnb88 := NB260_259.out
                have hnc88 := NB259_260.out
                have hcz89_0 : wr.cell? ⟨gb260, 0, none⟩ = some (.int .i64 x261000_2) := (blk_cell BK260.out 0).trans rfl
                have hcz89_1 : wr.cell? ⟨gb260, 1, none⟩ = some (.int .i64 x261001_2) := (blk_cell BK260.out 1).trans rfl
                have hcz89_2 : wr.cell? ⟨gb260, 2, none⟩ = some (.int .i64 x261002_2) := (blk_cell BK260.out 2).trans rfl
                have hcz89_3 : wr.cell? ⟨gb260, 3, none⟩ = some (.int .i64 x261003_2) := (blk_cell BK260.out 3).trans rfl
                have hcz89_4 : wr.cell? ⟨gb260, 4, none⟩ = some (.int .i64 x261004_2) := (blk_cell BK260.out 4).trans rfl
                have hcz89_5 : wr.cell? ⟨gb260, 5, none⟩ = some (.int .i64 x261005_2) := (blk_cell BK260.out 5).trans rfl
                have hfz89_0 := blk_frozen BK260.out 0
                have hfz89_1 := blk_frozen BK260.out 1
                have hfz89_2 := blk_frozen BK260.out 2
                have hfz89_3 := blk_frozen BK260.out 3
                have hfz89_4 := blk_frozen BK260.out 4
                have hfz89_5 := blk_frozen BK260.out 5
                go_wp2
                refine bodyPost_ret (results_ct rfl _ _ gb260 27 #[.int .i64 0, .int .i64 0, .int .i64 0, .int .i64 0, .int .i64 0, .int .i64 0] (0, 0) _ rfl (by (with_reducible repeat (first | refine blk_drewN ?_ _ | refine blk_drew ?_ | refine blk_alloc ?_ _)); refine blk_put (cs := #[.int .i64 0, .int .i64 0, .int .i64 0, .int .i64 0, .int .i64 0, .int .i64 x261005_2]) ?_ 5 _ rfl; (with_reducible repeat (first | refine blk_drewN ?_ _ | refine blk_drew ?_ | refine blk_alloc ?_ _)); refine blk_put (cs := #[.int .i64 0, .int .i64 0, .int .i64 0, .int .i64 0, .int .i64 x261004_2, .int .i64 x261005_2]) ?_ 4 _ rfl; (with_reducible repeat (first | refine blk_drewN ?_ _ | refine blk_drew ?_ | refine blk_alloc ?_ _)); refine blk_put (cs := #[.int .i64 0, .int .i64 0, .int .i64 0, .int .i64 x261003_2, .int .i64 x261004_2, .int .i64 x261005_2]) ?_ 3 _ rfl; (with_reducible repeat (first | refine blk_drewN ?_ _ | refine blk_drew ?_ | refine blk_alloc ?_ _)); refine blk_put (cs := #[.int .i64 0, .int .i64 0, .int .i64 x261002_2, .int .i64 x261003_2, .int .i64 x261004_2, .int .i64 x261005_2]) ?_ 2 _ rfl; (with_reducible repeat (first | refine blk_drewN ?_ _ | refine blk_drew ?_ | refine blk_alloc ?_ _)); refine blk_put (cs := #[.int .i64 0, .int .i64 x261001_2, .int .i64 x261002_2, .int .i64 x261003_2, .int .i64 x261004_2, .int .i64 x261005_2]) ?_ 1 _ rfl; (with_reducible repeat (first | refine blk_drewN ?_ _ | refine blk_drew ?_ | refine blk_alloc ?_ _)); refine blk_put (cs := #[.int .i64 x261000_2, .int .i64 x261001_2, .int .i64 x261002_2, .int .i64 x261003_2, .int .i64 x261004_2, .int .i64 x261005_2]) ?_ 0 _ rfl; (with_reducible repeat (first | refine blk_drewN ?_ _ | refine blk_drew ?_ | refine blk_alloc ?_ _)); exact BK260.out) Try.underlying27 rfl (by kernel_rfl)) rfl ?_
                exact ⟨by first | rfl | (simp [errW_none, errW_some] <;> rfl) | (simp [*, errW_none, errW_some] <;> rfl), by repeat (first | (with_reducible first | exact HB.out | apply below_alloc | apply pw_below_drewN | apply below_drew1 | refine below_set ?_ GE259.out | refine below_set ?_ GE260.out) | exact HB.out)⟩
  · rw [if_neg c7] at H
    have c7b0 : (t261 == 0) = false := beq_eq_false_iff_ne.mpr c7
    have c7b1 : (t261 != 0) = true := bne_iff_ne.mpr c7
    simp only [Option.some.injEq, Prod.mk.injEq] at H
    obtain ⟨rfl, rfl, rfl, rfl, rfl, rfl, rfl⟩ := H
    go_enter Try.func21, Try.ntmps21
    go_wp2_with (first | ((with_reducible refine gate_dst (N := 5) rfl ?_); refine box_event ?hg (N := 5) ?hd (cs := #[.int .i64 a0_0, .int .i64 a0_1, .int .i64 a0_2, .int .i64 a0_3, .int .i64 a0_4, .int .i64 a0_5]) (t := 25) ?hr ?_; (case hd => rfl); (case hg => rfl); (case hr => first | (go_simp; done) | (go_simp; rfl)); intro gb259 hg w90 hbox hb; have n0_ := Aside0.mk (below_step (by repeat (first | (with_reducible first | exact HB.out | apply below_alloc | apply pw_below_drewN | apply below_drew1) | exact HB.out)) hb); have n1_ := Aside0.mk (hbox); have n2_ := Aside0.mk ((by rw [hg]; exact (below_size (by repeat (first | (with_reducible first | exact HB.out | apply below_alloc | apply pw_below_drewN | apply below_drew1) | exact HB.out))) : w.heap.size ≤ gb259)); have n3_ := Aside0.mk ((by rw [hg]; exact (below_size (by repeat (first | (with_reducible first | exact HB.out | apply below_alloc | apply pw_below_drewN | apply below_drew1) | exact HB.out))) : w.heap.size ≤ gb259)); clear HB; have HB := n0_; have BK259 := n1_; have GW259 := n2_; have GE259 := n3_; clear n0_ n1_ n2_ n3_; clear hb hbox hg) | ((with_reducible refine gate_dst (N := 10) rfl ?_); refine box_event ?hg (N := 10) ?hd (cs := #[.int .i64 0, .int .i64 0, .int .i64 0, .int .i64 0, .int .i64 0, .int .i64 0]) (t := 27) ?hr ?_; (case hd => rfl); (case hg => rfl); (case hr => first | (go_simp; done) | (go_simp; rfl)); intro gb260 hg w91 hbox hb; have n0_ := Aside0.mk (blk_below (g := gb259) (o := .cells #[.int .i64 a0_0, .int .i64 a0_1, .int .i64 a0_2, .int .i64 a0_3, .int .i64 a0_4, .int .i64 a0_5] 25 (0, 0)) (by (with_reducible repeat (first | refine blk_drewN ?_ _ | refine blk_drew ?_ | refine blk_alloc ?_ _)); exact BK259.out) hb); have n1_ := Aside0.mk (below_step (by repeat (first | (with_reducible first | exact HB.out | apply below_alloc | apply pw_below_drewN | apply below_drew1 | refine below_set ?_ GE259.out) | exact HB.out)) hb); have n2_ := Aside0.mk (hbox); have n3_ := Aside0.mk ((by rw [hg]; exact (below_size (by repeat (first | (with_reducible first | exact HB.out | apply below_alloc | apply pw_below_drewN | apply below_drew1 | refine below_set ?_ GE259.out) | exact HB.out))) : w.heap.size ≤ gb260)); have n4_ := Aside0.mk ((by rw [hg]; exact (below_size (by repeat (first | (with_reducible first | exact HB.out | apply below_alloc | apply pw_below_drewN | apply below_drew1 | refine below_set ?_ GE259.out) | exact HB.out))) : w.heap.size ≤ gb260)); have n5_ := Aside0.mk ((by rw [hg]; exact Nat.ne_of_lt (blk_lt (g := gb259) (o := .cells #[.int .i64 a0_0, .int .i64 a0_1, .int .i64 a0_2, .int .i64 a0_3, .int .i64 a0_4, .int .i64 a0_5] 25 (0, 0)) (by (with_reducible repeat (first | refine blk_drewN ?_ _ | refine blk_drew ?_ | refine blk_alloc ?_ _)); exact BK259.out)) : gb259 ≠ gb260)); have n6_ := Aside0.mk ((by rw [hg]; exact Nat.ne_of_gt (blk_lt (g := gb259) (o := .cells #[.int .i64 a0_0, .int .i64 a0_1, .int .i64 a0_2, .int .i64 a0_3, .int .i64 a0_4, .int .i64 a0_5] 25 (0, 0)) (by (with_reducible repeat (first | refine blk_drewN ?_ _ | refine blk_drew ?_ | refine blk_alloc ?_ _)); exact BK259.out)) : gb260 ≠ gb259)); clear BK259; clear HB; have BK259 := n0_; have HB := n1_; have BK260 := n2_; have GW260 := n3_; have GE260 := n4_; have NB259_260 := n5_; have NB260_259 := n6_; clear n0_ n1_ n2_ n3_ n4_ n5_ n6_; clear hb hbox hg; have hnb92 := NB259_260.out; have hnc92 := NB260_259.out; have hcz93_0 : w91.cell? ⟨gb259, 0, none⟩ = some (.int .i64 a0_0) := (blk_cell BK259.out 0).trans rfl; have hcz93_1 : w91.cell? ⟨gb259, 1, none⟩ = some (.int .i64 a0_1) := (blk_cell BK259.out 1).trans rfl; have hcz93_2 : w91.cell? ⟨gb259, 2, none⟩ = some (.int .i64 a0_2) := (blk_cell BK259.out 2).trans rfl; have hcz93_3 : w91.cell? ⟨gb259, 3, none⟩ = some (.int .i64 a0_3) := (blk_cell BK259.out 3).trans rfl; have hcz93_4 : w91.cell? ⟨gb259, 4, none⟩ = some (.int .i64 a0_4) := (blk_cell BK259.out 4).trans rfl; have hcz93_5 : w91.cell? ⟨gb259, 5, none⟩ = some (.int .i64 a0_5) := (blk_cell BK259.out 5).trans rfl; have hfz93_0 := blk_frozen BK259.out 0; have hfz93_1 := blk_frozen BK259.out 1; have hfz93_2 := blk_frozen BK259.out 2; have hfz93_3 := blk_frozen BK259.out 3; have hfz93_4 := blk_frozen BK259.out 4; have hfz93_5 := blk_frozen BK259.out 5) | ((with_reducible refine gate_callee (f := 13) rfl ?_); refine goesL_ (some 17) rfl rfl Try.func13 (by kernel_rfl) rfl #[.agg #[.int .i64 a0_0, .int .i64 a0_1, .int .i64 a0_2, .int .i64 a0_3, .int .i64 a0_4, .int .i64 a0_5]] rfl (by (try simp only [List.map_toArray, List.map_cons, List.map_nil]); first | done | rfl | (simp only [List.length_drop, List.length_take]; rfl)) ?_; (with_reducible refine (gangsawref42_Check.calls k a0_0 a0_1 a0_2 a0_3 a0_4 a0_5 t261 _ A6.out).mono ?_); rintro e w94 ⟨rfl, hb⟩; refine ⟨_, rfl, ?_⟩; have n0_ := Aside0.mk (blk_below (g := gb259) (o := .cells #[.int .i64 a0_0, .int .i64 a0_1, .int .i64 a0_2, .int .i64 a0_3, .int .i64 a0_4, .int .i64 a0_5] 25 (0, 0)) (by (with_reducible repeat (first | refine blk_drewN ?_ _ | refine blk_drew ?_ | refine blk_alloc ?_ _)); exact BK259.out) hb); have n1_ := Aside0.mk (blk_below (g := gb260) (o := .cells #[.int .i64 0, .int .i64 0, .int .i64 0, .int .i64 0, .int .i64 0, .int .i64 0] 27 (0, 0)) (by (with_reducible repeat (first | refine blk_drewN ?_ _ | refine blk_drew ?_ | refine blk_alloc ?_ _)); exact BK260.out) hb); have n2_ := Aside0.mk (below_step (by repeat (first | (with_reducible first | exact HB.out | apply below_alloc | apply pw_below_drewN | apply below_drew1 | refine below_set ?_ GE259.out | refine below_set ?_ GE260.out) | exact HB.out)) hb); clear BK259; clear BK260; clear HB; have BK259 := n0_; have BK260 := n1_; have HB := n2_; clear n0_ n1_ n2_; (try clear hb); (try clear hb2); (try clear hk); (try clear hi); have hcz95_0 : w94.cell? ⟨gb260, 0, none⟩ = some (.int .i64 0) := (blk_cell BK260.out 0).trans rfl; have hcz95_1 : w94.cell? ⟨gb260, 1, none⟩ = some (.int .i64 0) := (blk_cell BK260.out 1).trans rfl; have hcz95_2 : w94.cell? ⟨gb260, 2, none⟩ = some (.int .i64 0) := (blk_cell BK260.out 2).trans rfl; have hcz95_3 : w94.cell? ⟨gb260, 3, none⟩ = some (.int .i64 0) := (blk_cell BK260.out 3).trans rfl; have hcz95_4 : w94.cell? ⟨gb260, 4, none⟩ = some (.int .i64 0) := (blk_cell BK260.out 4).trans rfl; have hcz95_5 : w94.cell? ⟨gb260, 5, none⟩ = some (.int .i64 0) := (blk_cell BK260.out 5).trans rfl; have hfz95_0 := blk_frozen BK260.out 0; have hfz95_1 := blk_frozen BK260.out 1; have hfz95_2 := blk_frozen BK260.out 2; have hfz95_3 := blk_frozen BK260.out 3; have hfz95_4 := blk_frozen BK260.out 4; have hfz95_5 := blk_frozen BK260.out 5))
    refine bodyPost_ret (results_ct rfl _ _ gb260 27 #[.int .i64 0, .int .i64 0, .int .i64 0, .int .i64 0, .int .i64 0, .int .i64 0] (0, 0) _ rfl (by (with_reducible repeat (first | refine blk_drewN ?_ _ | refine blk_drew ?_ | refine blk_alloc ?_ _)); refine blk_put (cs := #[.int .i64 0, .int .i64 0, .int .i64 0, .int .i64 0, .int .i64 0, .int .i64 0]) ?_ 5 _ rfl; (with_reducible repeat (first | refine blk_drewN ?_ _ | refine blk_drew ?_ | refine blk_alloc ?_ _)); refine blk_put (cs := #[.int .i64 0, .int .i64 0, .int .i64 0, .int .i64 0, .int .i64 0, .int .i64 0]) ?_ 4 _ rfl; (with_reducible repeat (first | refine blk_drewN ?_ _ | refine blk_drew ?_ | refine blk_alloc ?_ _)); refine blk_put (cs := #[.int .i64 0, .int .i64 0, .int .i64 0, .int .i64 0, .int .i64 0, .int .i64 0]) ?_ 3 _ rfl; (with_reducible repeat (first | refine blk_drewN ?_ _ | refine blk_drew ?_ | refine blk_alloc ?_ _)); refine blk_put (cs := #[.int .i64 0, .int .i64 0, .int .i64 0, .int .i64 0, .int .i64 0, .int .i64 0]) ?_ 2 _ rfl; (with_reducible repeat (first | refine blk_drewN ?_ _ | refine blk_drew ?_ | refine blk_alloc ?_ _)); refine blk_put (cs := #[.int .i64 0, .int .i64 0, .int .i64 0, .int .i64 0, .int .i64 0, .int .i64 0]) ?_ 1 _ rfl; (with_reducible repeat (first | refine blk_drewN ?_ _ | refine blk_drew ?_ | refine blk_alloc ?_ _)); refine blk_put (cs := #[.int .i64 0, .int .i64 0, .int .i64 0, .int .i64 0, .int .i64 0, .int .i64 0]) ?_ 0 _ rfl; (with_reducible repeat (first | refine blk_drewN ?_ _ | refine blk_drew ?_ | refine blk_alloc ?_ _)); exact BK260.out) Try.underlying27 rfl (by kernel_rfl)) rfl ?_
    exact ⟨by first | rfl | (simp [errW_none, errW_some] <;> rfl) | (simp [*, errW_none, errW_some] <;> rfl), by repeat (first | (with_reducible first | exact HB.out | apply below_alloc | apply pw_below_drewN | apply below_drew1 | refine below_set ?_ GE259.out | refine below_set ?_ GE260.out) | exact HB.out)⟩

end Go.Proofs.Ytaainbbkengjfaa.XA
