/- Every instruction that fits a row, tried one by one (0). No program is in sight. Every instruction that fits a row, tried one by one (1). No program is in sight. Every instruction that fits a row, tried one by one (2). No program is in sight. -/
import Derived.Test.YtfecjdchgckjhaaPressP
namespace Go.Proofs.Ytfecjdchgckjhaa.P
set_option linter.unusedVariables false
set_option linter.unusedSimpArgs false
open Go Go.RowKit

set_option maxRecDepth 100000 in
theorem row0 : rowChk 0 = true := by decide +kernel
set_option maxRecDepth 100000 in
theorem row3 : rowChk 3 = true := by decide +kernel
set_option maxRecDepth 100000 in
theorem row12 : rowChk 12 = true := by decide +kernel
set_option maxRecDepth 100000 in
theorem row13 : rowChk 13 = true := by decide +kernel
set_option maxRecDepth 100000 in
theorem row14 : rowChk 14 = true := by decide +kernel
set_option maxRecDepth 100000 in
theorem row15 : rowChk 15 = true := by decide +kernel
set_option maxRecDepth 100000 in
theorem row7 : rowChk 7 = true := by decide +kernel
set_option maxRecDepth 100000 in
theorem row9 : rowChk 9 = true := by decide +kernel
set_option maxRecDepth 100000 in
theorem row10 : rowChk 10 = true := by decide +kernel
end Go.Proofs.Ytfecjdchgckjhaa.P

namespace Go.Proofs.Ytfecjdchgckjhaa.P
set_option linter.unusedVariables false
set_option linter.unusedSimpArgs false
open Go Go.RowKit

set_option maxRecDepth 100000 in
theorem row1 : rowChk 1 = true := by decide +kernel
set_option maxRecDepth 100000 in
theorem row2 : rowChk 2 = true := by decide +kernel
end Go.Proofs.Ytfecjdchgckjhaa.P

namespace Go.Proofs.Ytfecjdchgckjhaa.P
set_option linter.unusedVariables false
set_option linter.unusedSimpArgs false
open Go Go.RowKit

set_option maxRecDepth 100000 in
theorem row4 : rowChk 4 = true := by decide +kernel
set_option maxRecDepth 100000 in
theorem row21 : rowChk 21 = true := by decide +kernel
set_option maxRecDepth 100000 in
theorem row23 : rowChk 23 = true := by decide +kernel
set_option maxRecDepth 100000 in
theorem row24 : rowChk 24 = true := by decide +kernel
set_option maxRecDepth 100000 in
theorem row11 : rowChk 11 = true := by decide +kernel
end Go.Proofs.Ytfecjdchgckjhaa.P
