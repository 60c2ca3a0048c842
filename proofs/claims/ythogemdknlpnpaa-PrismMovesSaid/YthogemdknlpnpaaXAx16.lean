-- written by xprint.py, this project's own program (wip/), over the words of print.sh
import Derived.Test.YthogemdknlpnpaaXAx0
import Derived.Test.YthogemdknlpnpaaHe
namespace Go.Proofs.Ythogemdknlpnpaa.XA
open Go.RowKit Go.Proofs.Ythogemdknlpnpaa.Opens Go.Proofs.YthogemdknlpnpaaW.PrintWords Go.Proofs.YthogemdknlpnpaaW.PrintLast Go.Proofs.YthogemdknlpnpaaW.PrintMore
attribute [local go_sem] max2_int min2_int max_two min_two max_three min_three max_four min_four cell_some cell_same   -- for this text's walks alone
set_option linter.unusedVariables false
set_option linter.unusedSimpArgs false

/-! ### prism_Covers: function 18 -/
-- HAND He


end Go.Proofs.Ythogemdknlpnpaa.XA
