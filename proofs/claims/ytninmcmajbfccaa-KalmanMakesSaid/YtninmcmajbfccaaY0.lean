import Derived.Shelf.Small.Bits
import Derived.Shelf.Strconv.Itoa0
import Derived.Shelf.Bits.Mul64
import Derived.Test.YtninmcmajbfccaaProg
/- Joined and thinned by a program of this session's own (wip/pack2.py) out of its texts (wip/ of its repo); parts were laid by its own program (wip/print-patch.py over the kit's print) out of the translation; Lean checks all. -/
namespace Go.Proofs
open Go.Shelf
def Try.KP : Go.Shelf.Ren := ⟨fun | 134 => 93 | 129 => 95 | n => n, fun | 53 => 103 | 3 => 3 | 4 => 4 | 46 => 107 | 5 => 5 | 9 => 9 | n => n, fun | n => n⟩
theorem Try.Vp : Go.Proofs.Lays.n134 Try.prog Try.KP := {
 mixed := by kernel_rfl
 f129 := Try.func95.trans (congrArg some (by kernel_rfl))
 f134 := Try.func93.trans (congrArg some (by kernel_rfl))
 t3 := Try.underlying3
 a3 := Try.isAgg3
 z3 := Try.sizeOf3
 v3 := Try.zeroValue3
 t4 := Try.underlying4
 a4 := Try.isAgg4
 z4 := Try.sizeOf4
 v4 := Try.zeroValue4
 t5 := Try.underlying5
 a5 := Try.isAgg5
 z5 := Try.sizeOf5
 v5 := Try.zeroValue5
 t9 := Try.underlying9
 a9 := Try.isAgg9
 z9 := Try.sizeOf9
 v9 := Try.zeroValue9
 t46 := Try.underlying107
 a46 := Try.isAgg107
 z46 := Try.sizeOf107
 v46 := Try.zeroValue107
 t53 := Try.underlying103
 a53 := Try.isAgg103
 z53 := Try.sizeOf103
 v53 := Try.zeroValue103 }
theorem Try.bits_LeadingZeros64 (x : Int) (w : World) (h0 : 0 ≤ x) (h1 : x ≤ 18446744073709551615) :
 Calls Try.prog 93 #[.int .u64 x] w fun e w' => e = .returned (.int .i64 (64 - (Lib.bitLen x.toNat : Int))) ∧ w' = w := Any.bits_LeadingZeros64 Try.Vp x w h0 h1
def Try.KN : Go.Shelf.Ren := ⟨fun | 264 => 64 | n => n, fun | 53 => 103 | 46 => 107 | n => n, fun | n => n⟩
theorem Try.lays264 : Go.Proofs.Lays.n264 Try.prog Try.KN := {
 mixed := by kernel_rfl
 f264 := Try.func64.trans (congrArg some (by kernel_rfl))
 t46 := Try.underlying107
 a46 := Try.isAgg107
 z46 := Try.sizeOf107
 v46 := Try.zeroValue107
 t53 := Try.underlying103
 a53 := Try.isAgg103
 z53 := Try.sizeOf103
 v53 := Try.zeroValue103 }
open Go.RowKit Go.Lib in
theorem Try.bits_Mul64 (x y : Nat) (hx : x < 18446744073709551616) (hy : y < 18446744073709551616) (w : World) :
 Calls Try.prog 64 #[.int .u64 x, .int .u64 y] w fun e w' => e = .returned (.tuple #[.int .u64 ((x * y / 18446744073709551616 : Nat) : Int), .int .u64 ((x * y % 18446744073709551616 : Nat) : Int)]) ∧ w' = w := Any.bits_Mul64 Try.lays264 x y hx hy w
def Try.KO : Go.Shelf.Ren := ⟨fun | 212 => 94 | 263 => 96 | 264 => 64 | n => n, fun | 46 => 107 | 51 => 129 | 146 => 130 | 53 => 103 | 148 => 104 | n => n, fun | n => n⟩
theorem Try.lays212 : Go.Proofs.Lays.n212 Try.prog Try.KO := {
 mixed := by kernel_rfl
 f212 := Try.func94.trans (congrArg some (by kernel_rfl))
 f263 := Try.func96.trans (congrArg some (by kernel_rfl))
 f264 := Try.func64.trans (congrArg some (by kernel_rfl))
 t46 := Try.underlying107
 a46 := Try.isAgg107
 z46 := Try.sizeOf107
 v46 := Try.zeroValue107
 t51 := Try.underlying129
 a51 := Try.isAgg129
 z51 := Try.sizeOf129
 v51 := Try.zeroValue129
 t53 := Try.underlying103
 a53 := Try.isAgg103
 z53 := Try.sizeOf103
 v53 := Try.zeroValue103
 t146 := Try.underlying130
 a146 := Try.isAgg130
 z146 := Try.sizeOf130
 v146 := Try.zeroValue130
 t148 := Try.underlying104
 a148 := Try.isAgg104
 z148 := Try.sizeOf104
 v148 := Try.zeroValue104 }
open Go.RowKit Go.Lib in
theorem Try.bits_Mul (x y : Nat) (hx : x < 18446744073709551616) (hy : y < 18446744073709551616) (w : World) :
 Calls Try.prog 94 #[.int .u64 x, .int .u64 y] w fun e w' => e = .returned (.tuple #[.int .u64 ((x * y / 18446744073709551616 : Nat) : Int), .int .u64 ((x * y % 18446744073709551616 : Nat) : Int)]) ∧ w' = w := Any.bits_Mul Try.lays212 x y hx hy w
end Go.Proofs

