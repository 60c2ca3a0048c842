-- written by xprint.py, this project's own program (wip/), over the words of print.sh
import Derived.Test.YtejnelflfldfgaaRows
import Derived.Test.YtejnelflfldfgaaXAx15
import Derived.Test.YtejnelflfldfgaaPureColourTurns
import Derived.WalkKit
import Derived.ProofKit
import Derived.OpenShut
import Derived.ShutString
import Derived.ChangeOld
import Derived.Below
import Derived.SizedLaws
import Derived.Test.YtejnelflfldfgaaWMoreSlim
namespace Go.Proofs.Ytejnelflfldfgaa.colourTurns
open Go.ChangeShapes Go.WideShapes Go.ChangeAt Go.RowKit Go.Proofs.Ytejnelflfldfgaa.Opens Go.Proofs.Ytejnelflfldfgaa.XA Go.Proofs.YtejnelflfldfgaaW.PrintWords
open Go.ChangeMaps (open_string shut_string)
set_option linter.unusedVariables false
theorem own : ownKnob Try.prog.godebug = none := by kernel_rfl
theorem laidOut : laidOutB Try.prog = true := by kernel_rfl
def IsRow (k : IntKind) (w : World) (a : Option Addr) (len cap : Nat) (zs : List Int) : Prop :=
  (a = none ∧ len = 0 ∧ cap = 0 ∧ zs = []) ∨
  ∃ x, a = some x ∧ len ≤ cap ∧ cap ≤ maxLen ∧ zs.length = cap ∧ (∀ i, i < zs.length → w.cell? (x.add i) = some (.int k (zs.getD i 0))) ∧ ∀ n ∈ zs, (Lit.int k n).wf = true
set_option maxRecDepth 100000 in
theorem lifted (os : Os) (started : os.Started) (H : Type) (enc : TypeId × Value → H) :
    ReturnsInHanded {} Try.checked os 11 .any (Rows.colourTurnsSpec.pre6 enc Try.prog Try.f11 Rows.colourTurnsRow.domain false) (Rows.colourTurnsSpec.post enc Try.prog Try.f11 false true false false) := by
  refine returnsInHanded_of_change_sized (C := Try.checked) own started (by kernel_rfl) Try.func11
    (ChangeSpec.witness6 (enc := enc) (C := Try.checked) false ⟨#[], #[.agg #[.string ByteArray.empty, .string ByteArray.empty, .int .i64 0, .int .i64 0, .int .i64 0, .int .i64 0, .int .i64 0, .int .i64 0, .int .i64 0, .int .i64 0, .slice none 0 0, .slice none 0 0], .agg #[.string ByteArray.empty, .string ByteArray.empty, .int .i64 0, .int .i64 0, .int .i64 0, .int .i64 0, .int .i64 0, .int .i64 0, .int .i64 0, .int .i64 0, .slice none 0 0, .slice none 0 0]], []⟩ 8 (by kernel_rfl) (by kernel_rfl) (by kernel_rfl) (by kernel_rfl)) ?_
  intro W base args ds gs before hval0 hW hcnd hsz0 _
  have hsz : (DataW.weightsEach Try.prog (Try.f11.params.toList ++ Rows.colourTurnsSpec.plain.varTypes Try.prog) (ds ++ gs)).all (· ≤ reachBytes) = true := hsz0
  have hval : ∀ (j : Nat) t v, Try.f11.params[j]? = some t → args[j]? = some v → Value.okWide Try.prog W .any base t v := hval0
  have hW' := hW
  obtain ⟨p, q, hA0, hV, rfl, hfz, hnd⟩ := hW
  have hA : DataW.TrodAll enc Try.prog W 0 (fun _ => true) true Try.f11.params.toList args.toList ds p := hA0
  rw [Try.params11] at hA hval hsz
  obtain ⟨v0, vs0, d0, ds0, p0, q0, hargs, rfl, rfl, h0, r0⟩ := trodAll_cons hA
  obtain ⟨v1, vs1, d1, ds1, p1, q1, rfl, rfl, rfl, h1, r1⟩ := trodAll_cons r0
  obtain ⟨rfl, rfl, rfl⟩ := trodAll_nil r1
  obtain rfl : args = #[v0, v1] := by cases args; simp_all
  obtain ⟨rfl, rfl⟩ := trodVars_none hV
  have k0 := h0
  have lt0 : ∀ x ∈ p0, x.block < W.heap.size := by obtain ⟨m, hm⟩ := k0; exact DataW.trod_lt m _ _ _ hm
  obtain ⟨fuel0, hf0⟩ := h0
  obtain ⟨x0, hk0, g0⟩ := opens47 _ _ _ _ _ _ _ _ _ hf0
  obtain ⟨A0_10, c0_10, A0_11, c0_11, he0, hc0_10, hr0_10, hc0_11, hr0_11⟩ := k47_open hk0
  have hv0 := agg_cells Try.underlying47 (hval 0 47 v0 rfl rfl)
  rw [he0] at hv0
  obtain rfl := hv0
  have k1 := h1
  have lt1 : ∀ x ∈ p1, x.block < W.heap.size := by obtain ⟨m, hm⟩ := k1; exact DataW.trod_lt m _ _ _ hm
  obtain ⟨fuel1, hf1⟩ := h1
  obtain ⟨x1, hk1, g1⟩ := opens47 _ _ _ _ _ _ _ _ _ hf1
  obtain ⟨A1_10, c1_10, A1_11, c1_11, he1, hc1_10, hr1_10, hc1_11, hr1_11⟩ := k47_open hk1
  have hv1 := agg_cells Try.underlying47 (hval 1 47 v1 rfl rfl)
  rw [he1] at hv1
  obtain rfl := hv1
  clear hA0 hval0 hsz0 hsz
  refine (XA.gangsawlaw35_ColourTurns.walk Pure.ColourTurns x0.f0 x0.f1 x0.f2 x0.f3.f0.f0 x0.f3.f0.f1 x0.f3.f0.f2 x0.f3.f1.f0 x0.f3.f1.f1 x0.f3.f1.f2 x0.f4 _ _ x0.f5 _ _ x0.f6 x1.f0 x1.f1 x1.f2 x1.f3.f0.f0 x1.f3.f0.f1 x1.f3.f0.f2 x1.f3.f1.f0 x1.f3.f1.f1 x1.f3.f1.f2 x1.f4 _ _ x1.f5 _ _ x1.f6 W g0 g1 hr0_10 hc0_10 hr0_11 hc0_11 hr1_10 hc1_10 hr1_11 hc1_11).mono fun e W' ⟨he, bel⟩ => ?_
  subst he
  exact ⟨_, rfl, _, _, _, [], _, [], hW', trodAll_mk1 (shut_bool Try.underlying4 _), (trodAll_cons_mk (Below.trod laidOut (by kernel_rfl) (of_decide_eq_true (by kernel_rfl)) k0 bel lt0) (trodAll_cons_mk (Below.trod laidOut (by kernel_rfl) (of_decide_eq_true (by kernel_rfl)) k1 bel lt1) trodAll_mk0)), rfl, bel.frame _, fun h => by cases h⟩
theorem over : Rows.colourTurnsRow.holds Try.pinned (OpenSpec.ofChange Rows.colourTurnsSpec) :=
  OpenClaim.holds_of_wide 11 Try.f11 rfl rfl rfl rfl rfl rfl rfl ⟨rfl, rfl, rfl, rfl, rfl⟩ rfl rfl rfl rfl rfl (by kernel_rfl) Try.func11 (by kernel_rfl)
    (of_decide_eq_true (by kernel_rfl)) (by unfold Func.isWrapper; first | (rw [if_pos (by decide +kernel)]; kernel_rfl) | (rw [if_neg (by decide +kernel)]; exact ⟨rfl, rfl⟩))
    (fun os started H enc _ => lifted os started H enc)
theorem proved : Rows.ColourTurnsSaid := over
#print axioms proved
end Go.Proofs.Ytejnelflfldfgaa.colourTurns
namespace Go.Proofs.Ytejnelflfldfgaa
/-- The row, under a short name, for the claim. -/
theorem colourTurns_holds : Rows.ColourTurnsSaid := colourTurns.proved
end Go.Proofs.Ytejnelflfldfgaa
