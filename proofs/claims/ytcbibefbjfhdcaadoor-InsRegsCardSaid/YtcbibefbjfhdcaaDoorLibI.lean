/- The contracts of the library that these texts call, laid by the kit's own program: strconv_Itoa_small. -/
import Derived.Shelf.Strconv.Itoa0
import Derived.Shelf.Strconv.Itoa1
import Derived.Shelf.LaysM
import Derived.Shelf.Strconv.Itoa2
import Derived.Shelf.Strconv.Itoa3
import Derived.Test.YtcbibefbjfhdcaaDoorProg
namespace Go.Proofs.YtcbibefbjfhdcaaDoor.LB
open Go.Shelf
def lays171_ren : Go.Shelf.Ren := ⟨fun | 171 => 32 | 243 => 43 | 246 => 55 | 283 => 67 | 284 => 68 | 285 => 69 | 286 => 70 | 129 => 74 | 317 => 73 | 318 => 75 | 319 => 76 | 320 => 77 | 337 => 80 | 338 => 81 | n => n, fun | 3 => 3 | 9 => 9 | 2 => 2 | 4 => 4 | 171 => 90 | 0 => 0 | 53 => 66 | 37 => 78 | 5 => 5 | 173 => 93 | 212 => 97 | 51 => 59 | 20 => 20 | 213 => 98 | 46 => 67 | 232 => 104 | 233 => 105 | n => n, fun | 17 => 2 | 18 => 4 | 19 => 5 | n => n⟩
theorem lays171 : Go.Proofs.Lays.n171 Tryd.prog lays171_ren := {
  mixed := by kernel_rfl
  f129 := Tryd.func74.trans (congrArg some (by kernel_rfl))
  f171 := Tryd.func32.trans (congrArg some (by kernel_rfl))
  f243 := Tryd.func43.trans (congrArg some (by kernel_rfl))
  f246 := Tryd.func55.trans (congrArg some (by kernel_rfl))
  f283 := Tryd.func67.trans (congrArg some (by kernel_rfl))
  f284 := Tryd.func68.trans (congrArg some (by kernel_rfl))
  f285 := Tryd.func69.trans (congrArg some (by kernel_rfl))
  f286 := Tryd.func70.trans (congrArg some (by kernel_rfl))
  f317 := Tryd.func73.trans (congrArg some (by kernel_rfl))
  f318 := Tryd.func75.trans (congrArg some (by kernel_rfl))
  f319 := Tryd.func76.trans (congrArg some (by kernel_rfl))
  f320 := Tryd.func77.trans (congrArg some (by kernel_rfl))
  f337 := Tryd.func80.trans (congrArg some (by kernel_rfl))
  f338 := Tryd.func81.trans (congrArg some (by kernel_rfl))
  t0 := Tryd.underlying0
  a0 := Tryd.isAgg0
  z0 := Tryd.sizeOf0
  v0 := Tryd.zeroValue0
  t2 := Tryd.underlying2
  a2 := Tryd.isAgg2
  z2 := Tryd.sizeOf2
  v2 := Tryd.zeroValue2
  t3 := Tryd.underlying3
  a3 := Tryd.isAgg3
  z3 := Tryd.sizeOf3
  v3 := Tryd.zeroValue3
  t4 := Tryd.underlying4
  a4 := Tryd.isAgg4
  z4 := Tryd.sizeOf4
  v4 := Tryd.zeroValue4
  t5 := Tryd.underlying5
  a5 := Tryd.isAgg5
  z5 := Tryd.sizeOf5
  v5 := Tryd.zeroValue5
  t9 := Tryd.underlying9
  a9 := Tryd.isAgg9
  z9 := Tryd.sizeOf9
  v9 := Tryd.zeroValue9
  t20 := Tryd.underlying20
  a20 := Tryd.isAgg20
  z20 := Tryd.sizeOf20
  v20 := Tryd.zeroValue20
  t37 := Tryd.underlying78
  a37 := Tryd.isAgg78
  z37 := Tryd.sizeOf78
  v37 := Tryd.zeroValue78
  t46 := Tryd.underlying67
  a46 := Tryd.isAgg67
  z46 := Tryd.sizeOf67
  v46 := Tryd.zeroValue67
  t51 := Tryd.underlying59
  a51 := Tryd.isAgg59
  z51 := Tryd.sizeOf59
  v51 := Tryd.zeroValue59
  t53 := Tryd.underlying66
  a53 := Tryd.isAgg66
  z53 := Tryd.sizeOf66
  v53 := Tryd.zeroValue66
  t171 := Tryd.underlying90
  a171 := Tryd.isAgg90
  z171 := Tryd.sizeOf90
  v171 := Tryd.zeroValue90
  t173 := Tryd.underlying93
  a173 := Tryd.isAgg93
  z173 := Tryd.sizeOf93
  v173 := Tryd.zeroValue93
  t212 := Tryd.underlying97
  a212 := Tryd.isAgg97
  z212 := Tryd.sizeOf97
  v212 := Tryd.zeroValue97
  t213 := Tryd.underlying98
  a213 := Tryd.isAgg98
  z213 := Tryd.sizeOf98
  t232 := Tryd.underlying104
  a232 := Tryd.isAgg104
  z232 := Tryd.sizeOf104
  v232 := Tryd.zeroValue104
  t233 := Tryd.underlying105
  a233 := Tryd.isAgg105
  z233 := Tryd.sizeOf105
  v233 := Tryd.zeroValue105
  g17 := by kernel_rfl
  g18 := by kernel_rfl
  g19 := by kernel_rfl }
open Go.RowKit Go.Sort Go.Lib in
theorem strconv_Itoa_small (i : Nat) (hi : i < 100) (w : World) :
    Calls Tryd.prog 32 #[.int .i64 i] w fun e w' => e = .returned (.string ⟨(Lib.decDigits i).toArray⟩) ∧ w' = w := Any.strconv_Itoa_small lays171 i hi w
end Go.Proofs.YtcbibefbjfhdcaaDoor.LB
