import Derived.Test.YthogemdknlpnpaaXAx0
import Derived.Test.YthogemdknlpnpaaXAx21
import Derived.Test.YthogemdknlpnpaaMh
namespace Go.Proofs.Ythogemdknlpnpaa.Pure
open Go.RowKit Go.Proofs.Ythogemdknlpnpaa.Opens Go.Proofs.Ythogemdknlpnpaa.XA Go.Proofs.YthogemdknlpnpaaW.PrintWords Go.Proofs.YthogemdknlpnpaaW.PrintLast Go.Proofs.Ythogemdknlpnpaa.Geo
set_option linter.unusedVariables false
theorem rc0 {l : List S60} (h0 : 0 < l.length) (hn : l.length < 1000) (ok : ∀ j, Okp (pt l j)) : ∀ (d k i : Nat), i + d = l.length →
    (((∀ e, i ≤ e → e < l.length → ∀ m, m < l.length → m ≠ e → m ≠ (e + 1) % l.length → 0 < cr3 (pt l e) (pt l ((e + 1) % l.length)) (pt l m)) → gangsawref08_convex.l0 (d * (l.length + 2) + 1 + k) l (l.length : Int) (i : Int) = some true) ∧
     ((∃ e, i ≤ e ∧ e < l.length ∧ ∃ m, m < l.length ∧ m ≠ e ∧ m ≠ (e + 1) % l.length ∧ cr3 (pt l e) (pt l ((e + 1) % l.length)) (pt l m) ≤ 0) → gangsawref08_convex.l0 (d * (l.length + 2) + 1 + k) l (l.length : Int) (i : Int) = some false))
  | 0, k, i, h => by
    rw [show 0 * (l.length + 2) + 1 + k = k + 1 by omega]
    unfold gangsawref08_convex.l0
    rw [if_neg (by omega)]
    exact ⟨fun _ => rfl, fun ⟨e, a, b, _⟩ => absurd a (by omega)⟩
  | d + 1, k, i, h => by
    have ih := rc0 h0 hn ok d k (i + 1) (by omega)
    rw [show (d + 1) * (l.length + 2) + 1 + k = (l.length + 1 + (d * (l.length + 2) + 1 + k)) + 1 by rw [Nat.add_mul]; omega]
    unfold gangsawref08_convex.l0
    rw [if_pos (by omega), if_neg (by omega), wr (x := (i : Int) + 1) (by omega)]
    rw [show Int.tmod ((i : Int) + 1) (l.length : Int) = (((i + 1) % l.length : Nat) : Int) from rfl]
    have r := rc1 hn ok (i := i) (c := (i + 1) % l.length) (by omega) (Nat.mod_lt _ h0) l.length (d * (l.length + 2) + 1 + k) 0 (by omega)
    rw [show ((i + 1 : Nat) : Int) = (i : Int) + 1 by omega] at ih
    by_cases q : ∃ m, 0 ≤ m ∧ m < l.length ∧ m ≠ i ∧ m ≠ (i + 1) % l.length ∧ cr3 (pt l i) (pt l ((i + 1) % l.length)) (pt l m) ≤ 0
    · refine ⟨fun a => ?_, fun _ => r.2 q⟩
      obtain ⟨m, _, m1, m2, m3, m4⟩ := q
      exact absurd (a i (Nat.le_refl _) (by omega) m m1 m2 m3) (by omega)
    · have e := r.1 (fun m a b c d => Classical.byContradiction fun p => q ⟨m, a, b, c, d, by omega⟩)
      refine ⟨fun a => e.trans (ih.1 (fun e' p => a e' (by omega))), fun ⟨e', p, p2, m, m1, m2, m3, m4⟩ => e.trans (ih.2 ⟨e', ?_, p2, m, m1, m2, m3, m4⟩)⟩
      have : e' ≠ i := fun x => by subst x; exact q ⟨m, Nat.zero_le _, m1, m2, m3, m4⟩
      omega
end Go.Proofs.Ythogemdknlpnpaa.Pure
