import Derived.Test.YthogemdknlpnpaaXAx0
import Derived.Test.YthogemdknlpnpaaXAx36
import Derived.Test.YthogemdknlpnpaaMm
namespace Go.Proofs.Ythogemdknlpnpaa.Pure
open Go.RowKit Go.Proofs.Ythogemdknlpnpaa.Opens Go.Proofs.Ythogemdknlpnpaa.XA Go.Proofs.YthogemdknlpnpaaW.PrintWords Go.Proofs.YthogemdknlpnpaaW.PrintLast Go.Proofs.Ythogemdknlpnpaa.Geo
set_option linter.unusedVariables false
set_option linter.unusedSimpArgs false
theorem chk_all {l : List S60} {lo hi : Int} (h : chk l lo hi = 0) : l.all okc = true := by
  unfold chk at h
  split at h
  · omega
  split at h
  · omega
  split at h
  · omega
  rename_i a b c
  rw [Bool.not_eq_false, Bool.and_eq_true] at c
  exact c.1
theorem mt_comm (l L : List S60) (lo hi lo' hi' : Int) : mt l lo hi L lo' hi' = mt L lo' hi' l lo hi := by
  unfold mt
  cases decide (lo < hi') <;> cases decide (lo' < hi) <;> cases decide (sep l L < 0) <;> cases decide (sep L l < 0) <;> rfl
theorem Meets_k (l L : List S60) (lo hi lo' hi' : Int) {k : Nat} (hk : 200 ≤ k) : prism_Meets.f k l lo hi L lo' hi' = some (if chk l lo hi = 0 then (if chk L lo' hi' = 0 then (mt l lo hi L lo' hi', 0) else (false, chk L lo' hi')) else (false, chk l lo hi)) := by
  obtain ⟨k, rfl⟩ : ∃ q, k = q + 10 := ⟨k - 10, by omega⟩
  have r0 : rd_T25 [(⟨l, lo, hi⟩ : S25), ⟨L, lo', hi'⟩] 0 = ⟨l, lo, hi⟩ := rfl
  have r1 : rd_T25 [(⟨l, lo, hi⟩ : S25), ⟨L, lo', hi'⟩] 1 = ⟨L, lo', hi'⟩ := rfl
  have w0 : wrap64 (0 + 1) = 1 := by decide +kernel
  have w1 : wrap64 (1 + 1) = 2 := by decide +kernel
  have c0 := check_k l lo hi (k := k + 9) (by omega)
  have c1 := check_k L lo' hi' (k := k + 8) (by omega)
  simp only [prism_Meets.f, Option.bind_some, List.length_cons, List.length_nil, prism_Meets.l0, r0, r1, w0, w1, c0, c1]
  by_cases a : chk l lo hi = 0
  · by_cases b : chk L lo' hi' = 0
    · obtain ⟨⟨a1, a2⟩, -⟩ := chk_ok a
      obtain ⟨⟨b1, b2⟩, -⟩ := chk_ok b
      have m := meets_k (by omega) a2 (chk_all a) (by omega) b2 (chk_all b) lo hi lo' hi' (k := k + 7) (by omega)
      simp [a, b, m]
    · simp [a, b]
  · simp [a]
end Go.Proofs.Ythogemdknlpnpaa.Pure
