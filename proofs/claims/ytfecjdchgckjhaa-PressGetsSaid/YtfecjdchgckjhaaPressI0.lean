/- Every parcel, tried one by one (0). No program is in sight. Every parcel, tried one by one (1). No program is in sight. Every parcel, tried one by one (2). No program is in sight. Every parcel, tried one by one (3). No program is in sight. -/
import Derived.Test.YtfecjdchgckjhaaPressP
namespace Go.Proofs.Ytfecjdchgckjhaa.P
set_option linter.unusedVariables false
set_option linter.unusedSimpArgs false
open Go Go.RowKit

set_option maxRecDepth 100000 in
theorem inj0 : allN (fun j => inj (0 + j)) 1024 = true := by decide +kernel
set_option maxRecDepth 100000 in
theorem inj1 : allN (fun j => inj (1024 + j)) 1024 = true := by decide +kernel
set_option maxRecDepth 100000 in
theorem inj2 : allN (fun j => inj (2048 + j)) 1024 = true := by decide +kernel
set_option maxRecDepth 100000 in
theorem inj3 : allN (fun j => inj (3072 + j)) 1024 = true := by decide +kernel
set_option maxRecDepth 100000 in
theorem inj4 : allN (fun j => inj (4096 + j)) 1024 = true := by decide +kernel
set_option maxRecDepth 100000 in
theorem inj5 : allN (fun j => inj (5120 + j)) 1024 = true := by decide +kernel
set_option maxRecDepth 100000 in
theorem inj6 : allN (fun j => inj (6144 + j)) 1024 = true := by decide +kernel
set_option maxRecDepth 100000 in
theorem inj7 : allN (fun j => inj (7168 + j)) 1024 = true := by decide +kernel
end Go.Proofs.Ytfecjdchgckjhaa.P

namespace Go.Proofs.Ytfecjdchgckjhaa.P
set_option linter.unusedVariables false
set_option linter.unusedSimpArgs false
open Go Go.RowKit

set_option maxRecDepth 100000 in
theorem inj8 : allN (fun j => inj (8192 + j)) 1024 = true := by decide +kernel
set_option maxRecDepth 100000 in
theorem inj9 : allN (fun j => inj (9216 + j)) 1024 = true := by decide +kernel
set_option maxRecDepth 100000 in
theorem inj10 : allN (fun j => inj (10240 + j)) 1024 = true := by decide +kernel
set_option maxRecDepth 100000 in
theorem inj11 : allN (fun j => inj (11264 + j)) 1024 = true := by decide +kernel
set_option maxRecDepth 100000 in
theorem inj12 : allN (fun j => inj (12288 + j)) 1024 = true := by decide +kernel
set_option maxRecDepth 100000 in
theorem inj13 : allN (fun j => inj (13312 + j)) 1024 = true := by decide +kernel
set_option maxRecDepth 100000 in
theorem inj14 : allN (fun j => inj (14336 + j)) 1024 = true := by decide +kernel
set_option maxRecDepth 100000 in
theorem inj15 : allN (fun j => inj (15360 + j)) 1024 = true := by decide +kernel
end Go.Proofs.Ytfecjdchgckjhaa.P

namespace Go.Proofs.Ytfecjdchgckjhaa.P
set_option linter.unusedVariables false
set_option linter.unusedSimpArgs false
open Go Go.RowKit

set_option maxRecDepth 100000 in
theorem inj16 : allN (fun j => inj (16384 + j)) 1024 = true := by decide +kernel
set_option maxRecDepth 100000 in
theorem inj17 : allN (fun j => inj (17408 + j)) 1024 = true := by decide +kernel
set_option maxRecDepth 100000 in
theorem inj18 : allN (fun j => inj (18432 + j)) 1024 = true := by decide +kernel
set_option maxRecDepth 100000 in
theorem inj19 : allN (fun j => inj (19456 + j)) 1024 = true := by decide +kernel
set_option maxRecDepth 100000 in
theorem inj20 : allN (fun j => inj (20480 + j)) 1024 = true := by decide +kernel
set_option maxRecDepth 100000 in
theorem inj21 : allN (fun j => inj (21504 + j)) 1024 = true := by decide +kernel
set_option maxRecDepth 100000 in
theorem inj22 : allN (fun j => inj (22528 + j)) 1024 = true := by decide +kernel
set_option maxRecDepth 100000 in
theorem inj23 : allN (fun j => inj (23552 + j)) 1024 = true := by decide +kernel
end Go.Proofs.Ytfecjdchgckjhaa.P

namespace Go.Proofs.Ytfecjdchgckjhaa.P
set_option linter.unusedVariables false
set_option linter.unusedSimpArgs false
open Go Go.RowKit

set_option maxRecDepth 100000 in
theorem inj24 : allN (fun j => inj (24576 + j)) 1024 = true := by decide +kernel
set_option maxRecDepth 100000 in
theorem inj25 : allN (fun j => inj (25600 + j)) 1024 = true := by decide +kernel
set_option maxRecDepth 100000 in
theorem inj26 : allN (fun j => inj (26624 + j)) 1024 = true := by decide +kernel
set_option maxRecDepth 100000 in
theorem inj27 : allN (fun j => inj (27648 + j)) 1024 = true := by decide +kernel
set_option maxRecDepth 100000 in
theorem inj28 : allN (fun j => inj (28672 + j)) 1024 = true := by decide +kernel
set_option maxRecDepth 100000 in
theorem inj29 : allN (fun j => inj (29696 + j)) 1024 = true := by decide +kernel
set_option maxRecDepth 100000 in
theorem inj30 : allN (fun j => inj (30720 + j)) 1024 = true := by decide +kernel
set_option maxRecDepth 100000 in
theorem inj31 : allN (fun j => inj (31744 + j)) 1024 = true := by decide +kernel
end Go.Proofs.Ytfecjdchgckjhaa.P
