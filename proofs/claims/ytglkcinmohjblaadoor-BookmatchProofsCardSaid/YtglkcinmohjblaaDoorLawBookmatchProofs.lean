-- written by xprint.py, this project's own program (wip/), over the words of print.sh
import Derived.Test.YtglkcinmohjblaaDoorPureBookmatchProofs
import Derived.Test.YtglkcinmohjblaaDoorHg
import Derived.Test.YtglkcinmohjblaaDoorTie
import Derived.Test.YtglkcinmohjblaaDoorCards
import Derived.WalkKit
import Derived.ProofKit
import Derived.OpenShut
import Derived.ShutString
import Derived.ChangeOld
import Derived.Below
import Derived.SizedLaws
namespace Go.Proofs.YtglkcinmohjblaaDoor.bookmatchProofs
open Go.ChangeShapes Go.WideShapes Go.ChangeAt Go.RowKit Go.Proofs.YtglkcinmohjblaaDoor.Opens Go.Proofs.YtglkcinmohjblaaDoor.XA Go.Proofs.YtglkcinmohjblaaDoorW.PrintWords
open Go.ChangeMaps (open_string shut_string)
set_option linter.unusedVariables false
theorem own : ownKnob Tryd.prog.godebug = none := by kernel_rfl
theorem laidOut : laidOutB Tryd.prog = true := by kernel_rfl
def IsRow (k : IntKind) (w : World) (a : Option Addr) (len cap : Nat) (zs : List Int) : Prop :=
  (a = none ∧ len = 0 ∧ cap = 0 ∧ zs = []) ∨
  ∃ x, a = some x ∧ len ≤ cap ∧ cap ≤ maxLen ∧ zs.length = cap ∧ (∀ i, i < zs.length → w.cell? (x.add i) = some (.int k (zs.getD i 0))) ∧ ∀ n ∈ zs, (Lit.int k n).wf = true
set_option maxRecDepth 100000 in
theorem lifted (os : Os) (started : os.Started) (H : Type) (enc : TypeId × Value → H) :
    ReturnsInHanded {} Tryd.checked os 6 .any (fun w args => (Rows.bookmatchProofsSpec.pre enc Tryd.prog Tryd.f6 Rows.bookmatchProofsRow.domain false w args ∧ laidMetH Tryd.prog Rows.bookmatchProofsRow.laid w) ∧ sizedMet enc Tryd.prog Tryd.f6 (OpenSpec.ofChange Rows.bookmatchProofsSpec) false w args) (Rows.bookmatchProofsSpec.post enc Tryd.prog Tryd.f6 false true false false) := by
  refine returnsInHanded_of_change_and (C := Tryd.checked) (X := fun w _ => laidMetH Tryd.prog Rows.bookmatchProofsRow.laid w) (fun _ _ _ hh h => h.of_heap hh) own started (by kernel_rfl) Tryd.func6
    (ChangeSpec.witness_at (enc := enc) (C := Tryd.checked) (os := os) (X := fun w _ => laidMetH Tryd.prog Rows.bookmatchProofsRow.laid w) false (laidWorld os) #[.slice none 0 0, .int .i64 0, .slice none 0 0] 8 rfl (by kernel_rfl) (by kernel_rfl) (by kernel_rfl) (by kernel_rfl) (by kernel_rfl) (laidWorld_met os _)) ?_
  intro W base args ds gs before hval0 hW hcnd hsz0 hL _
  have hsz : (DataW.weightsEach Tryd.prog (Tryd.f6.params.toList ++ Rows.bookmatchProofsSpec.plain.varTypes Tryd.prog) (ds ++ gs)).all (· ≤ reachBytes) = true := hsz0
  have hval : ∀ (j : Nat) t v, Tryd.f6.params[j]? = some t → args[j]? = some v → Value.okWide Tryd.prog W .any base t v := hval0
  have hW' := hW
  obtain ⟨p, q, hA0, hV, rfl, hfz, hnd⟩ := hW
  have hA : DataW.TrodAll enc Tryd.prog W 0 (fun _ => true) true Tryd.f6.params.toList args.toList ds p := hA0
  rw [Tryd.params6] at hA hval hsz
  obtain ⟨v0, vs0, d0, ds0, p0, q0, hargs, rfl, rfl, h0, r0⟩ := trodAll_cons hA
  obtain ⟨v1, vs1, d1, ds1, p1, q1, rfl, rfl, rfl, h1, r1⟩ := trodAll_cons r0
  obtain ⟨v2, vs2, d2, ds2, p2, q2, rfl, rfl, rfl, h2, r2⟩ := trodAll_cons r1
  obtain ⟨rfl, rfl, rfl⟩ := trodAll_nil r2
  obtain rfl : args = #[v0, v1, v2] := by cases args; simp_all
  obtain ⟨rfl, rfl⟩ := trodVars_none hV
  have k0 := h0
  have lt0 : ∀ x ∈ p0, x.block < W.heap.size := by obtain ⟨m, hm⟩ := k0; exact DataW.trod_lt m _ _ _ hm
  obtain ⟨fuel0, hf0⟩ := h0
  rw [slice_cells Tryd.underlying22 (hval 0 22 v0 rfl rfl)] at hf0
  obtain ⟨x0, ⟨A0, c0, he0, hc0, hr0⟩, g0⟩ := (opens_slice Tryd.underlying22 (by kernel_rfl) opens62) _ _ _ _ _ _ _ _ _ hf0
  obtain rfl := List.singleton_inj.mp he0
  obtain ⟨a1, rfl, rfl, rfl, w1⟩ := open_int Tryd.underlying2 (hval 1 2 v1 rfl rfl) h1
  have k2 := h2
  have lt2 : ∀ x ∈ p2, x.block < W.heap.size := by obtain ⟨m, hm⟩ := k2; exact DataW.trod_lt m _ _ _ hm
  obtain ⟨fuel2, hf2⟩ := h2
  rw [slice_cells Tryd.underlying46 (hval 2 46 v2 rfl rfl)] at hf2
  obtain ⟨x2, ⟨A2, c2, he2, hc2, hr2⟩, g2⟩ := (opens_slice Tryd.underlying46 (by kernel_rfl) opens51) _ _ _ _ _ _ _ _ _ hf2
  obtain rfl := List.singleton_inj.mp he2
  obtain ⟨tg_, hg_⟩ := ways_laid hL
  clear hA0 hval0 hsz0 hsz
  refine (XA.lw_BookmatchProofs.walk Pure.BookmatchProofs _ _ x0 a1 _ _ x2 tg_ W g0 w1 g2 hr0 hc0 hr2 hc2 hg_).mono fun e W' ⟨he, bel⟩ => ?_
  subst he
  exact ⟨_, rfl, _, _, _, [], _, [], hW', trodAll_mk1 (shut_bool Tryd.underlying4 _), (trodAll_cons_mk (Below.trod laidOut (by kernel_rfl) (of_decide_eq_true (by kernel_rfl)) k0 bel lt0) (trodAll_cons_mk (shut_int Tryd.underlying2 w1) (trodAll_cons_mk (Below.trod laidOut (by kernel_rfl) (of_decide_eq_true (by kernel_rfl)) k2 bel lt2) trodAll_mk0))), rfl, bel.frame _, fun h => by cases h⟩
theorem over : Rows.bookmatchProofsRow.holds Tryd.pinned (OpenSpec.ofChange Rows.bookmatchProofsSpec) :=
  OpenClaim.holds_of_wide 6 Tryd.f6 rfl rfl rfl rfl rfl rfl rfl ⟨rfl, rfl, rfl, rfl, rfl⟩ rfl rfl rfl rfl rfl (by kernel_rfl) Tryd.func6 (by kernel_rfl)
    (of_decide_eq_true (by kernel_rfl)) (by unfold Func.isWrapper; first | (rw [if_pos (by decide +kernel)]; kernel_rfl) | (rw [if_neg (by decide +kernel)]; exact ⟨rfl, rfl⟩))
    (fun os started H enc _ => lifted os started H enc)
theorem proved : Rows.BookmatchProofsSaid := over
theorem card : Rows.BookmatchProofsCardSaid :=
  Claim7.holds_tied_plain_at .later [] [.data] true (true, "0ab27042aa2702dc31f88aa2201dc85c04f10da722fb56ba93535a3aa0a4b39e") false
    over (fun _ h => by cases h) (by kernel_rfl) (fun _ h => by cases h) bookmatchProofs_row_tie rfl ⟨rfl, rfl⟩ (by kernel_rfl) rfl
    (fun f fn hf hfn => by
      obtain rfl : f = 6 := Option.some.inj ((show Tryd.prog.funcNamed "gangsaw/gangsawlaw36.BookmatchProofs" = some 6 by kernel_rfl).symm.trans hf) |>.symm
      obtain rfl : fn = Tryd.f6 := (Option.some.inj (Tryd.func6.symm.trans hfn)).symm
      exact ⟨by kernel_rfl, fun j t ht => by
        rw [Tryd.params6] at ht
        have hm : t ∈ [22, 2, 46] := by simpa using Array.mem_of_getElem? ht
        have hall : ([22, 2, 46].all fun u => !Tryd.prog.wantsStandIn u) = true := by kernel_rfl
        exact (show Tryd.prog.wantsStandIn t = false by simpa using List.all_eq_true.1 hall t hm)⟩)
    (by kernel_rfl)
#print axioms card
end Go.Proofs.YtglkcinmohjblaaDoor.bookmatchProofs
namespace Go.Proofs.YtglkcinmohjblaaDoor
/-- The card, under a short name, for the claim. -/
theorem bookmatchProofs_card : Rows.BookmatchProofsCardSaid := bookmatchProofs.card
end Go.Proofs.YtglkcinmohjblaaDoor
