/- math/bits.LeadingZeros64, by the library's own contract laid at this dump. -/
import Derived.Shelf.Small.Bits
import Derived.Test.YtajhkbdaoakogaaProg
namespace Go.Proofs.Ytajhkbdaoakogaa.Len
open Go.Shelf
def lays134_ren : Go.Shelf.Ren := ⟨fun | 134 => 141 | 129 => 145 | n => n, fun | 53 => 82 | 3 => 3 | 4 => 4 | 46 => 83 | 5 => 5 | 9 => 9 | n => n, fun | n => n⟩
theorem lays134 : Go.Proofs.Lays.n134 Try.prog lays134_ren := {
  mixed := by kernel_rfl
  f129 := Try.func145.trans (congrArg some (by kernel_rfl))
  f134 := Try.func141.trans (congrArg some (by kernel_rfl))
  t3 := Try.underlying3
  a3 := Try.isAgg3
  z3 := Try.sizeOf3
  v3 := Try.zeroValue3
  t4 := Try.underlying4
  a4 := Try.isAgg4
  z4 := Try.sizeOf4
  v4 := Try.zeroValue4
  t5 := Try.underlying5
  a5 := Try.isAgg5
  z5 := Try.sizeOf5
  v5 := Try.zeroValue5
  t9 := Try.underlying9
  a9 := Try.isAgg9
  z9 := Try.sizeOf9
  v9 := Try.zeroValue9
  t46 := Try.underlying83
  a46 := Try.isAgg83
  z46 := Try.sizeOf83
  v46 := Try.zeroValue83
  t53 := Try.underlying82
  a53 := Try.isAgg82
  z53 := Try.sizeOf82
  v53 := Try.zeroValue82 }
theorem leadingZeros_any (x : Int) (w : World) (h0 : 0 ≤ x) (h1 : x ≤ 18446744073709551615) :
    Calls Try.prog 141 #[.int .u64 x] w fun e w' => e = .returned (.int .i64 (64 - (Lib.bitLen x.toNat : Int))) ∧ w' = w := Any.bits_LeadingZeros64 lays134 x w h0 h1
end Go.Proofs.Ytajhkbdaoakogaa.Len
