/- Every instruction that fits a row, tried one by one (6). No program is in sight. Every instruction that fits a row, tried one by one (7). No program is in sight. Every instruction that fits a row, tried one by one (8). No program is in sight. -/
import Derived.Test.YtfecjdchgckjhaaPressP
namespace Go.Proofs.Ytfecjdchgckjhaa.P
set_option linter.unusedVariables false
set_option linter.unusedSimpArgs false
open Go Go.RowKit

set_option maxRecDepth 100000 in
theorem row16 : rowChk 16 = true := by decide +kernel
set_option maxRecDepth 100000 in
theorem row20 : rowChk 20 = true := by decide +kernel
end Go.Proofs.Ytfecjdchgckjhaa.P

namespace Go.Proofs.Ytfecjdchgckjhaa.P
set_option linter.unusedVariables false
set_option linter.unusedSimpArgs false
open Go Go.RowKit

set_option maxRecDepth 100000 in
theorem row17 : rowChk 17 = true := by decide +kernel
set_option maxRecDepth 100000 in
theorem row26 : rowChk 26 = true := by decide +kernel
end Go.Proofs.Ytfecjdchgckjhaa.P

namespace Go.Proofs.Ytfecjdchgckjhaa.P
set_option linter.unusedVariables false
set_option linter.unusedSimpArgs false
open Go Go.RowKit

set_option maxRecDepth 100000 in
theorem row18 : rowChk 18 = true := by decide +kernel
end Go.Proofs.Ytfecjdchgckjhaa.P
