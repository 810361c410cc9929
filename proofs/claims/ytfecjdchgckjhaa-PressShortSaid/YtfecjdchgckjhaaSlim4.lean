/- What the functions of package slim compute: the quarters. -/
import Derived.Test.YtfecjdchgckjhaaSlim3
import Derived.Deep.DrawnRows
namespace Go.Proofs.Ytfecjdchgckjhaa.S
set_option linter.unusedVariables false
set_option linter.unusedSimpArgs false
open Go.ChangeShapes Go.WideShapes Go.ChangeAt Go.RowKit Go.Proofs.Ytfecjdchgckjhaa.P Go.Proofs.Ytfecjdchgckjhaa.W
attribute [local go_sem ↓] Go.wp_at_zero Go.wp_at_succ

end Go.Proofs.Ytfecjdchgckjhaa.S
