import Derived.Test.YtgacodhpniehiaaNc
namespace Go.Proofs.Ytgacodhpniehiaa.Pure
set_option linter.unusedVariables false
set_option linter.unusedSimpArgs false
open Go.RowKit Go.Proofs.Ytgacodhpniehiaa.Opens Go.Proofs.Ytgacodhpniehiaa.XA Go.Proofs.YtgacodhpniehiaaW.PrintWords Go.Proofs.YtgacodhpniehiaaW.PrintLast Go.Proofs.YtgacodhpniehiaaW.PrintMore
theorem BoxpackProves : lw_BoxpackProves.Pure := by
  intro n0 n1 n2 kf its l _ _
  exact Ev.rounds (Proves_law ⟨n0, n1, n2⟩ kf its l)

end Go.Proofs.Ytgacodhpniehiaa.Pure
