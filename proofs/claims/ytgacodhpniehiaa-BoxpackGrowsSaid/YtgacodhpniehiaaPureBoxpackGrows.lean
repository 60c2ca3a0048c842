import Derived.Test.YtgacodhpniehiaaNf
namespace Go.Proofs.Ytgacodhpniehiaa.Pure
set_option linter.unusedVariables false
set_option linter.unusedSimpArgs false
open Go.RowKit Go.Proofs.Ytgacodhpniehiaa.Opens Go.Proofs.Ytgacodhpniehiaa.XA Go.Proofs.YtgacodhpniehiaaW.PrintWords Go.Proofs.YtgacodhpniehiaaW.PrintLast Go.Proofs.YtgacodhpniehiaaW.PrintMore
theorem BoxpackGrows : lw_BoxpackGrows.Pure := by
  intro n0 n1 n2 kf its a x0 x1 x2 x3 x4 x5 x6 _ _ _
  exact Ev.rounds (Grows_ev ⟨n0, n1, n2⟩ kf its a ⟨x0, ⟨x1, x2, x3⟩, x4, x5, x6⟩)

end Go.Proofs.Ytgacodhpniehiaa.Pure
