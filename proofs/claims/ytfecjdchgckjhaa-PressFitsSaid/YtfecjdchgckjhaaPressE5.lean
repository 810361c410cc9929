/- Every instruction that fits a row, tried one by one (5). No program is in sight. -/
import Derived.Test.YtfecjdchgckjhaaPressQ
namespace Go.Proofs.Ytfecjdchgckjhaa.P
set_option linter.unusedVariables false
set_option linter.unusedSimpArgs false
open Go Go.RowKit

set_option maxRecDepth 100000 in
theorem row8 : rowChk 8 = true := by decide +kernel
set_option maxRecDepth 100000 in
theorem row19 : rowChk 19 = true := by decide +kernel
end Go.Proofs.Ytfecjdchgckjhaa.P
