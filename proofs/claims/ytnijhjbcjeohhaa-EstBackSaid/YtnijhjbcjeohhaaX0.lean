import Derived.Shelf.Small.Bits
import Derived.Shelf.Strconv.Itoa0
import Derived.Shelf.Bits.Mul64
import Derived.Test.YtnijhjbcjeohhaaProg
/- Joined and thinned by a program of this session's own (wip/pack2.py) out of its texts (wip/ of its repo); parts were laid by its own program (wip/print-patch.py over the kit's print) out of the translation; Lean checks all. -/
namespace Go.Proofs
open Go.Shelf
def Try.zA : Go.Shelf.Ren := ⟨fun | 134 => 121 | 129 => 128 | n => n, fun | 53 => 150 | 3 => 3 | 4 => 4 | 46 => 154 | 5 => 5 | 9 => 9 | n => n, fun | n => n⟩
theorem Try.Jr : Go.Proofs.Lays.n134 Try.prog Try.zA := {
 mixed := by kernel_rfl
 f129 := Try.func128.trans (congrArg some (by kernel_rfl))
 f134 := Try.func121.trans (congrArg some (by kernel_rfl))
 t3 := Try.underlying3
 a3 := Try.isAgg3
 z3 := Try.sizeOf3
 v3 := Try.zeroValue3
 t4 := Try.underlying4
 a4 := Try.isAgg4
 z4 := Try.sizeOf4
 v4 := Try.zeroValue4
 t5 := Try.underlying5
 a5 := Try.isAgg5
 z5 := Try.sizeOf5
 v5 := Try.zeroValue5
 t9 := Try.underlying9
 a9 := Try.isAgg9
 z9 := Try.sizeOf9
 v9 := Try.zeroValue9
 t46 := Try.underlying154
 a46 := Try.isAgg154
 z46 := Try.sizeOf154
 v46 := Try.zeroValue154
 t53 := Try.underlying150
 a53 := Try.isAgg150
 z53 := Try.sizeOf150
 v53 := Try.zeroValue150 }
theorem Try.bits_LeadingZeros64 (x : Int) (w : World) (h0 : 0 ≤ x) (h1 : x ≤ 18446744073709551615) :
 Calls Try.prog 121 #[.int .u64 x] w fun e w' => e = .returned (.int .i64 (64 - (Lib.bitLen x.toNat : Int))) ∧ w' = w := Any.bits_LeadingZeros64 Try.Jr x w h0 h1
def Try.zx : Go.Shelf.Ren := ⟨fun | 264 => 96 | n => n, fun | 53 => 150 | 46 => 154 | n => n, fun | n => n⟩
theorem Try.lays264 : Go.Proofs.Lays.n264 Try.prog Try.zx := {
 mixed := by kernel_rfl
 f264 := Try.func96.trans (congrArg some (by kernel_rfl))
 t46 := Try.underlying154
 a46 := Try.isAgg154
 z46 := Try.sizeOf154
 v46 := Try.zeroValue154
 t53 := Try.underlying150
 a53 := Try.isAgg150
 z53 := Try.sizeOf150
 v53 := Try.zeroValue150 }
open Go.RowKit Go.Lib in
theorem Try.bits_Mul64 (x y : Nat) (hx : x < 18446744073709551616) (hy : y < 18446744073709551616) (w : World) :
 Calls Try.prog 96 #[.int .u64 x, .int .u64 y] w fun e w' => e = .returned (.tuple #[.int .u64 ((x * y / 18446744073709551616 : Nat) : Int), .int .u64 ((x * y % 18446744073709551616 : Nat) : Int)]) ∧ w' = w := Any.bits_Mul64 Try.lays264 x y hx hy w
def Try.zy : Go.Shelf.Ren := ⟨fun | 212 => 131 | 263 => 132 | 264 => 96 | n => n, fun | 46 => 154 | 51 => 186 | 146 => 187 | 53 => 150 | 148 => 151 | n => n, fun | n => n⟩
theorem Try.lays212 : Go.Proofs.Lays.n212 Try.prog Try.zy := {
 mixed := by kernel_rfl
 f212 := Try.func131.trans (congrArg some (by kernel_rfl))
 f263 := Try.func132.trans (congrArg some (by kernel_rfl))
 f264 := Try.func96.trans (congrArg some (by kernel_rfl))
 t46 := Try.underlying154
 a46 := Try.isAgg154
 z46 := Try.sizeOf154
 v46 := Try.zeroValue154
 t51 := Try.underlying186
 a51 := Try.isAgg186
 z51 := Try.sizeOf186
 v51 := Try.zeroValue186
 t53 := Try.underlying150
 a53 := Try.isAgg150
 z53 := Try.sizeOf150
 v53 := Try.zeroValue150
 t146 := Try.underlying187
 a146 := Try.isAgg187
 z146 := Try.sizeOf187
 v146 := Try.zeroValue187
 t148 := Try.underlying151
 a148 := Try.isAgg151
 z148 := Try.sizeOf151
 v148 := Try.zeroValue151 }
open Go.RowKit Go.Lib in
theorem Try.bits_Mul (x y : Nat) (hx : x < 18446744073709551616) (hy : y < 18446744073709551616) (w : World) :
 Calls Try.prog 131 #[.int .u64 x, .int .u64 y] w fun e w' => e = .returned (.tuple #[.int .u64 ((x * y / 18446744073709551616 : Nat) : Int), .int .u64 ((x * y % 18446744073709551616 : Nat) : Int)]) ∧ w' = w := Any.bits_Mul Try.lays212 x y hx hy w
end Go.Proofs

