/- The contracts of the library that these texts call, laid by the kit's own program: cloneM. -/
import Derived.Shelf.SlMaps.Clone
import Derived.Test.YtoabdbnecjbgkaaProg
namespace Go.Proofs.Ytoabdbnecjbgkaa.LB
open Go.Shelf
def cloneM_ren : Go.Shelf.Ren := ⟨fun | 5 => 33 | 7 => 42 | n => n, fun | 23 => 58 | 25 => 23 | 3 => 5 | 4 => 4 | 20 => 20 | n => n, fun | n => n⟩
theorem cloneM : Go.Proofs.SlLaysW.n5 Try.prog cloneM_ren := {
  mixed := by kernel_rfl
  f5 := ⟨Try.f33.name, by decide, Try.func33.trans (congrArg some (by kernel_rfl))⟩
  f7 := Try.func42.trans (congrArg some (by kernel_rfl))
  t4 := Try.underlying4
  a4 := Try.isAgg4
  z4 := Try.sizeOf4
  v4 := Try.zeroValue4
  t20 := Try.underlying20
  a20 := Try.isAgg20
  z20 := Try.sizeOf20
  v20 := Try.zeroValue20
  t23 := Try.underlying58
  a23 := Try.isAgg58
  z23 := Try.sizeOf58
  v23 := Try.zeroValue58 }
end Go.Proofs.Ytoabdbnecjbgkaa.LB
