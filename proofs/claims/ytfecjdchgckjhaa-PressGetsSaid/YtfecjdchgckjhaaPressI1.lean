/- Every parcel, tried one by one (4). No program is in sight. Every parcel, tried one by one (5). No program is in sight. Every parcel, tried one by one (6). No program is in sight. Every parcel, tried one by one (7). No program is in sight. -/
import Derived.Test.YtfecjdchgckjhaaPressP
namespace Go.Proofs.Ytfecjdchgckjhaa.P
set_option linter.unusedVariables false
set_option linter.unusedSimpArgs false
open Go Go.RowKit

set_option maxRecDepth 100000 in
theorem inj32 : allN (fun j => inj (32768 + j)) 1024 = true := by decide +kernel
set_option maxRecDepth 100000 in
theorem inj33 : allN (fun j => inj (33792 + j)) 1024 = true := by decide +kernel
set_option maxRecDepth 100000 in
theorem inj34 : allN (fun j => inj (34816 + j)) 1024 = true := by decide +kernel
set_option maxRecDepth 100000 in
theorem inj35 : allN (fun j => inj (35840 + j)) 1024 = true := by decide +kernel
set_option maxRecDepth 100000 in
theorem inj36 : allN (fun j => inj (36864 + j)) 1024 = true := by decide +kernel
set_option maxRecDepth 100000 in
theorem inj37 : allN (fun j => inj (37888 + j)) 1024 = true := by decide +kernel
set_option maxRecDepth 100000 in
theorem inj38 : allN (fun j => inj (38912 + j)) 1024 = true := by decide +kernel
set_option maxRecDepth 100000 in
theorem inj39 : allN (fun j => inj (39936 + j)) 1024 = true := by decide +kernel
end Go.Proofs.Ytfecjdchgckjhaa.P

namespace Go.Proofs.Ytfecjdchgckjhaa.P
set_option linter.unusedVariables false
set_option linter.unusedSimpArgs false
open Go Go.RowKit

set_option maxRecDepth 100000 in
theorem inj40 : allN (fun j => inj (40960 + j)) 1024 = true := by decide +kernel
set_option maxRecDepth 100000 in
theorem inj41 : allN (fun j => inj (41984 + j)) 1024 = true := by decide +kernel
set_option maxRecDepth 100000 in
theorem inj42 : allN (fun j => inj (43008 + j)) 1024 = true := by decide +kernel
set_option maxRecDepth 100000 in
theorem inj43 : allN (fun j => inj (44032 + j)) 1024 = true := by decide +kernel
set_option maxRecDepth 100000 in
theorem inj44 : allN (fun j => inj (45056 + j)) 1024 = true := by decide +kernel
set_option maxRecDepth 100000 in
theorem inj45 : allN (fun j => inj (46080 + j)) 1024 = true := by decide +kernel
set_option maxRecDepth 100000 in
theorem inj46 : allN (fun j => inj (47104 + j)) 1024 = true := by decide +kernel
set_option maxRecDepth 100000 in
theorem inj47 : allN (fun j => inj (48128 + j)) 1024 = true := by decide +kernel
end Go.Proofs.Ytfecjdchgckjhaa.P

namespace Go.Proofs.Ytfecjdchgckjhaa.P
set_option linter.unusedVariables false
set_option linter.unusedSimpArgs false
open Go Go.RowKit

set_option maxRecDepth 100000 in
theorem inj48 : allN (fun j => inj (49152 + j)) 1024 = true := by decide +kernel
set_option maxRecDepth 100000 in
theorem inj49 : allN (fun j => inj (50176 + j)) 1024 = true := by decide +kernel
set_option maxRecDepth 100000 in
theorem inj50 : allN (fun j => inj (51200 + j)) 1024 = true := by decide +kernel
set_option maxRecDepth 100000 in
theorem inj51 : allN (fun j => inj (52224 + j)) 1024 = true := by decide +kernel
set_option maxRecDepth 100000 in
theorem inj52 : allN (fun j => inj (53248 + j)) 1024 = true := by decide +kernel
set_option maxRecDepth 100000 in
theorem inj53 : allN (fun j => inj (54272 + j)) 1024 = true := by decide +kernel
set_option maxRecDepth 100000 in
theorem inj54 : allN (fun j => inj (55296 + j)) 1024 = true := by decide +kernel
set_option maxRecDepth 100000 in
theorem inj55 : allN (fun j => inj (56320 + j)) 1024 = true := by decide +kernel
end Go.Proofs.Ytfecjdchgckjhaa.P

namespace Go.Proofs.Ytfecjdchgckjhaa.P
set_option linter.unusedVariables false
set_option linter.unusedSimpArgs false
open Go Go.RowKit

set_option maxRecDepth 100000 in
theorem inj56 : allN (fun j => inj (57344 + j)) 1024 = true := by decide +kernel
set_option maxRecDepth 100000 in
theorem inj57 : allN (fun j => inj (58368 + j)) 1024 = true := by decide +kernel
set_option maxRecDepth 100000 in
theorem inj58 : allN (fun j => inj (59392 + j)) 1024 = true := by decide +kernel
set_option maxRecDepth 100000 in
theorem inj59 : allN (fun j => inj (60416 + j)) 1024 = true := by decide +kernel
set_option maxRecDepth 100000 in
theorem inj60 : allN (fun j => inj (61440 + j)) 1024 = true := by decide +kernel
set_option maxRecDepth 100000 in
theorem inj61 : allN (fun j => inj (62464 + j)) 1024 = true := by decide +kernel
set_option maxRecDepth 100000 in
theorem inj62 : allN (fun j => inj (63488 + j)) 1024 = true := by decide +kernel
set_option maxRecDepth 100000 in
theorem inj63 : allN (fun j => inj (64512 + j)) 1024 = true := by decide +kernel
end Go.Proofs.Ytfecjdchgckjhaa.P
