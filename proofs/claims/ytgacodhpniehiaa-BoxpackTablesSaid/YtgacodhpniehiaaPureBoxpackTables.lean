import Derived.Test.YtgacodhpniehiaaNb
namespace Go.Proofs.Ytgacodhpniehiaa.Pure
set_option linter.unusedVariables false
set_option linter.unusedSimpArgs false
open Go.RowKit Go.Proofs.Ytgacodhpniehiaa.Opens Go.Proofs.Ytgacodhpniehiaa.XA Go.Proofs.YtgacodhpniehiaaW.PrintWords Go.Proofs.YtgacodhpniehiaaW.PrintLast Go.Proofs.YtgacodhpniehiaaW.PrintMore
theorem BoxpackTables : lw_BoxpackTables.Pure := by
  intro n0 n1 n2 kf its tb _ _
  exact Ev.rounds (Tables_ev ⟨n0, n1, n2⟩ kf its tb)

end Go.Proofs.Ytgacodhpniehiaa.Pure
