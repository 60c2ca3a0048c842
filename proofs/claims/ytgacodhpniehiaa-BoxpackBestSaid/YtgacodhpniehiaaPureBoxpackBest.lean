import Derived.Test.YtgacodhpniehiaaNg
namespace Go.Proofs.Ytgacodhpniehiaa.Pure
set_option linter.unusedVariables false
set_option linter.unusedSimpArgs false
open Go.RowKit Go.Proofs.Ytgacodhpniehiaa.Opens Go.Proofs.Ytgacodhpniehiaa.XA Go.Proofs.YtgacodhpniehiaaW.PrintWords Go.Proofs.YtgacodhpniehiaaW.PrintLast Go.Proofs.YtgacodhpniehiaaW.PrintMore
theorem BoxpackBest : lw_BoxpackBest.Pure := by
  intro n0 n1 n2 kf its _
  exact Ev.rounds (Best_law ⟨n0, n1, n2⟩ kf its)

end Go.Proofs.Ytgacodhpniehiaa.Pure
