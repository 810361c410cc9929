/- Every instruction that fits a row, tried one by one (3). No program is in sight. Every instruction that fits a row, tried one by one (4). No program is in sight. Every instruction that fits a row, tried one by one (5). No program is in sight. -/
import Derived.Test.YtfecjdchgckjhaaPressP
namespace Go.Proofs.Ytfecjdchgckjhaa.P
set_option linter.unusedVariables false
set_option linter.unusedSimpArgs false
open Go Go.RowKit

set_option maxRecDepth 100000 in
theorem row5 : rowChk 5 = true := by decide +kernel
set_option maxRecDepth 100000 in
theorem row22 : rowChk 22 = true := by decide +kernel
end Go.Proofs.Ytfecjdchgckjhaa.P

namespace Go.Proofs.Ytfecjdchgckjhaa.P
set_option linter.unusedVariables false
set_option linter.unusedSimpArgs false
open Go Go.RowKit

set_option maxRecDepth 100000 in
theorem row6 : rowChk 6 = true := by decide +kernel
set_option maxRecDepth 100000 in
theorem row25 : rowChk 25 = true := by decide +kernel
end Go.Proofs.Ytfecjdchgckjhaa.P

namespace Go.Proofs.Ytfecjdchgckjhaa.P
set_option linter.unusedVariables false
set_option linter.unusedSimpArgs false
open Go Go.RowKit

set_option maxRecDepth 100000 in
theorem row8 : rowChk 8 = true := by decide +kernel
set_option maxRecDepth 100000 in
theorem row19 : rowChk 19 = true := by decide +kernel
end Go.Proofs.Ytfecjdchgckjhaa.P
