import Derived.Test.YtglkcinmohjblaaDoorRows
import Derived.ChangeSame
import Derived.ChangeVars
import Derived.JoinedOf
import Derived.RowKit
import Derived.LaidLaws
import Derived.Handed
namespace Go.Proofs.YtglkcinmohjblaaDoor.XA
open Go Go.ChangeShapes Go.WideShapes Go.RowKit Go.Proofs.YtglkcinmohjblaaDoor
theorem waysAt : Tryd.prog.globalNamed "gangsaw/bookmatch.ways" = some 0 := by kernel_rfl
theorem waysType : (Tryd.prog.globals[0]?).map (·.type) = some 73 := by kernel_rfl
theorem cells73 : Tryd.prog.cellsOf 73 = 2 := by kernel_rfl
theorem under73 : Tryd.prog.underlying 73 = some (.array 2 4) := by kernel_rfl
theorem under4 : Tryd.prog.underlying 4 = some .bool := by kernel_rfl
theorem cells4 : Tryd.prog.cellsOf 4 = 1 := by kernel_rfl
theorem bool_of_trod {H : Type} {enc : TypeId × Value → H} {P : Program} {w : World} {base : Nat} {sp : Nat → Bool} {held : Bool} {fuel : Nat} {t : TypeId} {c : Value} {y : DataW H × List MemPlace}
    (ht : P.underlying t = some .bool) (h : DataW.trod enc P w base sp held fuel t [c] = some y) : ∃ b, c = .bool b ∧ y = (.lit (.bool b), []) := by
  cases fuel with
  | zero => simp [DataW.trod] at h
  | succ fuel =>
    cases c <;> simp [DataW.trod, ht] at h
    rename_i b
    exact ⟨b, rfl, h.symm⟩
theorem ways_laid {W : World} (h : laidMet Tryd.prog [("gangsaw/bookmatch.ways", Rows.laid_gangsaw_bookmatch_ways)] W) : ∃ t, W.heap[0]? = some (.cells #[.bool false, .bool true] t (0, 0)) := by
  obtain ⟨ps, ⟨g, t, cs, fuel, p, q, hg, ht, hvar, hd, _, hps⟩, _, hfz⟩ := h
  obtain rfl := Option.some.inj (waysAt.symm.trans hg)
  obtain rfl := Option.some.inj (waysType.symm.trans ht)
  have hcs : cs = #[.bool false, .bool true] := by
    obtain ⟨l⟩ := cs
    cases fuel with
    | zero => simp [DataW.trod] at hd
    | succ fuel =>
      simp only [DataW.trod, under73, cells73, cells4] at hd
      split at hd
      · rename_i hl
        obtain ⟨c0, c1, rfl⟩ : ∃ c0 c1, l = [c0, c1] := by
          match l, hl with
          | [a, b], _ => exact ⟨a, b, rfl⟩
        have e : List.range 2 = [0, 1] := rfl
        rw [e] at hd
        simp only [Option.map_eq_some_iff, List.mapM_cons, List.mapM_nil, Option.bind_eq_bind, Option.bind_eq_some_iff, Option.pure_def, Option.some.injEq] at hd
        obtain ⟨xs, ⟨y0, h0, _, ⟨y1, h1, _, rfl, rfl⟩, rfl⟩, hx⟩ := hd
        obtain ⟨b0, rfl, rfl⟩ := bool_of_trod under4 h0
        obtain ⟨b1, rfl, rfl⟩ := bool_of_trod under4 h1
        simp [Rows.laid_gangsaw_bookmatch_ways] at hx
        obtain ⟨⟨rfl, rfl⟩, _⟩ := hx
        rfl
      · cases hd
  subst hcs
  obtain ⟨⟨c, t, hh⟩, _⟩ := hfz 0 0 (by rw [hps]; simp [MemPlace.row])
  refine ⟨t, ?_⟩
  simp only [World.var?, waysAt, Option.bind_some, hh] at hvar
  rw [hh, Option.some.inj hvar]
/-- A world that meets the condition: the settled one, the variable's cells laid. -/
noncomputable def laidWorld (os : Os) : World :=
  let w0 := World.holding Tryd.prog os ⟨#[], #[], []⟩
  { w0 with heap := w0.heap.modify 0 fun
      | .cells _ t frozen => .cells #[.bool false, .bool true] t frozen
      | o => o }
theorem laidWorld_met (os : Os) (args : Array Value) : laidMet Tryd.prog [("gangsaw/bookmatch.ways", Rows.laid_gangsaw_bookmatch_ways)] ((laidWorld os).forCall (fun _ _ => 0) ⟨#[], args, []⟩).memory :=
  laidMet_of_run (ps := [.cell 0 0, .cell 0 1]) 8 (by kernel_rfl) (by kernel_rfl) (by kernel_rfl)
end Go.Proofs.YtglkcinmohjblaaDoor.XA
