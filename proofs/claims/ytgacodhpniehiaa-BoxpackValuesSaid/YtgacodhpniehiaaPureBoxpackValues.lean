import Derived.Test.YtgacodhpniehiaaNa
namespace Go.Proofs.Ytgacodhpniehiaa.Pure
set_option linter.unusedVariables false
set_option linter.unusedSimpArgs false
open Go.RowKit Go.Proofs.Ytgacodhpniehiaa.Opens Go.Proofs.Ytgacodhpniehiaa.XA Go.Proofs.YtgacodhpniehiaaW.PrintWords Go.Proofs.YtgacodhpniehiaaW.PrintLast Go.Proofs.YtgacodhpniehiaaW.PrintMore
theorem BoxpackValues : lw_BoxpackValues.Pure := by
  intro n0 n1 n2 kf its l _ _
  exact Ev.rounds (Values_ev ⟨n0, n1, n2⟩ kf its l)

end Go.Proofs.Ytgacodhpniehiaa.Pure
