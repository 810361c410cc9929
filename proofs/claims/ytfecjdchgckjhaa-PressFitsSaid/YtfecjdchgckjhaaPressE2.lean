/- Every instruction that fits a row, tried one by one (2). No program is in sight. -/
import Derived.Test.YtfecjdchgckjhaaPressQ
namespace Go.Proofs.Ytfecjdchgckjhaa.P
set_option linter.unusedVariables false
set_option linter.unusedSimpArgs false
open Go Go.RowKit

set_option maxRecDepth 100000 in
theorem row4 : rowChk 4 = true := by decide +kernel
set_option maxRecDepth 100000 in
theorem row21 : rowChk 21 = true := by decide +kernel
set_option maxRecDepth 100000 in
theorem row23 : rowChk 23 = true := by decide +kernel
set_option maxRecDepth 100000 in
theorem row24 : rowChk 24 = true := by decide +kernel
set_option maxRecDepth 100000 in
theorem row11 : rowChk 11 = true := by decide +kernel
end Go.Proofs.Ytfecjdchgckjhaa.P
