import Derived.Test.YtgacodhpniehiaaNd
namespace Go.Proofs.Ytgacodhpniehiaa.Pure
set_option linter.unusedVariables false
set_option linter.unusedSimpArgs false
open Go.RowKit Go.Proofs.Ytgacodhpniehiaa.Opens Go.Proofs.Ytgacodhpniehiaa.XA Go.Proofs.YtgacodhpniehiaaW.PrintWords Go.Proofs.YtgacodhpniehiaaW.PrintLast Go.Proofs.YtgacodhpniehiaaW.PrintMore
theorem BoxpackBounds : lw_BoxpackBounds.Pure := by
  intro n0 n1 n2 kf its tb l _ _ _
  exact Ev.rounds (Bounds_ev ⟨n0, n1, n2⟩ kf its tb l)

end Go.Proofs.Ytgacodhpniehiaa.Pure
