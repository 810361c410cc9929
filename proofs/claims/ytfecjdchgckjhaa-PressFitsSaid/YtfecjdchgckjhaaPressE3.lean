/- Every instruction that fits a row, tried one by one (3). No program is in sight. -/
import Derived.Test.YtfecjdchgckjhaaPressQ
namespace Go.Proofs.Ytfecjdchgckjhaa.P
set_option linter.unusedVariables false
set_option linter.unusedSimpArgs false
open Go Go.RowKit

set_option maxRecDepth 100000 in
theorem row5 : rowChk 5 = true := by decide +kernel
set_option maxRecDepth 100000 in
theorem row22 : rowChk 22 = true := by decide +kernel
end Go.Proofs.Ytfecjdchgckjhaa.P
