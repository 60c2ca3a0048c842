import Derived.Test.YtgacodhpniehiaaNe
namespace Go.Proofs.Ytgacodhpniehiaa.Pure
set_option linter.unusedVariables false
set_option linter.unusedSimpArgs false
open Go.RowKit Go.Proofs.Ytgacodhpniehiaa.Opens Go.Proofs.Ytgacodhpniehiaa.XA Go.Proofs.YtgacodhpniehiaaW.PrintWords Go.Proofs.YtgacodhpniehiaaW.PrintLast Go.Proofs.YtgacodhpniehiaaW.PrintMore
theorem BoxpackLeast : lw_BoxpackLeast.Pure := by
  intro n0 n1 n2 kf its a _ _
  exact Ev.rounds (Least_ev ⟨n0, n1, n2⟩ kf its a)

end Go.Proofs.Ytgacodhpniehiaa.Pure
