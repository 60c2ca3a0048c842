-- written by xprint.py, this project's own program (wip/), over the words of print.sh
import Derived.Test.YtecbmcheojolnaaRows
import Derived.Test.YtecbmcheojolnaaXAx43
import Derived.Test.YtecbmcheojolnaaPurePrecedenceSame
import Derived.WalkKit
import Derived.ProofKit
import Derived.OpenShut
import Derived.ShutString
import Derived.ChangeOld
import Derived.Below
import Derived.SizedLaws
import Derived.Test.YtecbmcheojolnaaWMoreSlim
namespace Go.Proofs.Ytecbmcheojolnaa.precedenceSame
open Go.ChangeShapes Go.WideShapes Go.ChangeAt Go.RowKit Go.Proofs.Ytecbmcheojolnaa.Opens Go.Proofs.Ytecbmcheojolnaa.XA Go.Proofs.YtecbmcheojolnaaW.PrintWords
open Go.ChangeMaps (open_string shut_string)
set_option linter.unusedVariables false
theorem own : ownKnob Try.prog.godebug = none := by kernel_rfl
theorem laidOut : laidOutB Try.prog = true := by kernel_rfl
def IsRow (k : IntKind) (w : World) (a : Option Addr) (len cap : Nat) (zs : List Int) : Prop :=
  (a = none ∧ len = 0 ∧ cap = 0 ∧ zs = []) ∨
  ∃ x, a = some x ∧ len ≤ cap ∧ cap ≤ maxLen ∧ zs.length = cap ∧ (∀ i, i < zs.length → w.cell? (x.add i) = some (.int k (zs.getD i 0))) ∧ ∀ n ∈ zs, (Lit.int k n).wf = true
set_option maxRecDepth 100000 in
theorem lifted (os : Os) (started : os.Started) (H : Type) (enc : TypeId × Value → H) :
    ReturnsInHanded {} Try.checked os 7 .any (Rows.precedenceSameSpec.pre6 enc Try.prog Try.f7 Rows.precedenceSameRow.domain false) (Rows.precedenceSameSpec.post enc Try.prog Try.f7 false true false false) := by
  refine returnsInHanded_of_change_sized (C := Try.checked) own started (by kernel_rfl) Try.func7
    (ChangeSpec.witness6 (enc := enc) (C := Try.checked) false ⟨#[], #[.agg #[.int .i64 0, .slice none 0 0], .slice none 0 0], []⟩ 8 (by kernel_rfl) (by kernel_rfl) (by kernel_rfl) (by kernel_rfl)) ?_
  intro W base args ds gs before hval0 hW hcnd hsz0 _
  have hsz : (DataW.weightsEach Try.prog (Try.f7.params.toList ++ Rows.precedenceSameSpec.plain.varTypes Try.prog) (ds ++ gs)).all (· ≤ reachBytes) = true := hsz0
  have hval : ∀ (j : Nat) t v, Try.f7.params[j]? = some t → args[j]? = some v → Value.okWide Try.prog W .any base t v := hval0
  have hW' := hW
  obtain ⟨p, q, hA0, hV, rfl, hfz, hnd⟩ := hW
  have hA : DataW.TrodAll enc Try.prog W 0 (fun _ => true) true Try.f7.params.toList args.toList ds p := hA0
  rw [Try.params7] at hA hval hsz
  obtain ⟨v0, vs0, d0, ds0, p0, q0, hargs, rfl, rfl, h0, r0⟩ := trodAll_cons hA
  obtain ⟨v1, vs1, d1, ds1, p1, q1, rfl, rfl, rfl, h1, r1⟩ := trodAll_cons r0
  obtain ⟨rfl, rfl, rfl⟩ := trodAll_nil r1
  obtain rfl : args = #[v0, v1] := by cases args; simp_all
  obtain ⟨rfl, rfl⟩ := trodVars_none hV
  have k0 := h0
  have lt0 : ∀ x ∈ p0, x.block < W.heap.size := by obtain ⟨m, hm⟩ := k0; exact DataW.trod_lt m _ _ _ hm
  obtain ⟨fuel0, hf0⟩ := h0
  obtain ⟨x0, hk0, g0⟩ := opens24 _ _ _ _ _ _ _ _ _ hf0
  obtain ⟨A0_1, c0_1, he0, hc0_1, hr0_1⟩ := k24_open hk0
  have hv0 := agg_cells Try.underlying24 (hval 0 24 v0 rfl rfl)
  rw [he0] at hv0
  obtain rfl := hv0
  have k1 := h1
  have lt1 : ∀ x ∈ p1, x.block < W.heap.size := by obtain ⟨m, hm⟩ := k1; exact DataW.trod_lt m _ _ _ hm
  obtain ⟨fuel1, hf1⟩ := h1
  rw [slice_cells Try.underlying27 (hval 1 27 v1 rfl rfl)] at hf1
  obtain ⟨x1, ⟨A1, c1, he1, hc1, hr1⟩, g1⟩ := (opens_slice Try.underlying27 (by kernel_rfl) (opens_int Try.underlying3)) _ _ _ _ _ _ _ _ _ hf1
  obtain rfl := List.singleton_inj.mp he1
  clear hA0 hval0 hsz0 hsz
  refine (XA.lw_PrecedenceSame.walk Pure.PrecedenceSame x0.f0 _ _ x0.f1 _ _ x1 W g0 g1 hr0_1 hc0_1 hr1 hc1).mono fun e W' ⟨he, bel⟩ => ?_
  subst he
  exact ⟨_, rfl, _, _, _, [], _, [], hW', trodAll_mk1 (shut_bool Try.underlying4 _), (trodAll_cons_mk (Below.trod laidOut (by kernel_rfl) (of_decide_eq_true (by kernel_rfl)) k0 bel lt0) (trodAll_cons_mk (Below.trod laidOut (by kernel_rfl) (of_decide_eq_true (by kernel_rfl)) k1 bel lt1) trodAll_mk0)), rfl, bel.frame _, fun h => by cases h⟩
theorem over : Rows.precedenceSameRow.holds Try.pinned (OpenSpec.ofChange Rows.precedenceSameSpec) :=
  OpenClaim.holds_of_wide 7 Try.f7 rfl rfl rfl rfl rfl rfl rfl ⟨rfl, rfl, rfl, rfl, rfl⟩ rfl rfl rfl rfl rfl (by kernel_rfl) Try.func7 (by kernel_rfl)
    (of_decide_eq_true (by kernel_rfl)) (by unfold Func.isWrapper; first | (rw [if_pos (by decide +kernel)]; kernel_rfl) | (rw [if_neg (by decide +kernel)]; exact ⟨rfl, rfl⟩))
    (fun os started H enc _ => lifted os started H enc)
theorem proved : Rows.PrecedenceSameSaid := over
#print axioms proved
end Go.Proofs.Ytecbmcheojolnaa.precedenceSame
namespace Go.Proofs.Ytecbmcheojolnaa
/-- The row, under a short name, for the claim. -/
theorem precedenceSame_holds : Rows.PrecedenceSameSaid := precedenceSame.proved
end Go.Proofs.Ytecbmcheojolnaa
