import Derived.Shelf.Small.Bits
import Derived.Shelf.Strconv.Itoa0
import Derived.Shelf.Bits.Mul64
import Derived.Test.YtcfobekkchhbbaaGreatProg
/- Joined and thinned by a program of this session's own (wip/pack2.py) out of its texts (wip/ of its repo); parts were laid by its own program (wip/print-patch.py over the kit's print) out of the translation; Lean checks all. -/
namespace Go.Proofs
open Go.Shelf
def Tryz.JZ : Go.Shelf.Ren := ⟨fun | 134 => 199 | 129 => 208 | n => n, fun | 53 => 205 | 3 => 3 | 4 => 4 | 46 => 209 | 5 => 5 | 9 => 9 | n => n, fun | n => n⟩
theorem Tryz.VE : Go.Proofs.Lays.n134 Tryz.prog Tryz.JZ := {
 mixed := by kernel_rfl
 f129 := Tryz.func208.trans (congrArg some (by kernel_rfl))
 f134 := Tryz.func199.trans (congrArg some (by kernel_rfl))
 t3 := Tryz.underlying3
 a3 := Tryz.isAgg3
 z3 := Tryz.sizeOf3
 v3 := Tryz.zeroValue3
 t4 := Tryz.underlying4
 a4 := Tryz.isAgg4
 z4 := Tryz.sizeOf4
 v4 := Tryz.zeroValue4
 t5 := Tryz.underlying5
 a5 := Tryz.isAgg5
 z5 := Tryz.sizeOf5
 v5 := Tryz.zeroValue5
 t9 := Tryz.underlying9
 a9 := Tryz.isAgg9
 z9 := Tryz.sizeOf9
 v9 := Tryz.zeroValue9
 t46 := Tryz.underlying209
 a46 := Tryz.isAgg209
 z46 := Tryz.sizeOf209
 v46 := Tryz.zeroValue209
 t53 := Tryz.underlying205
 a53 := Tryz.isAgg205
 z53 := Tryz.sizeOf205
 v53 := Tryz.zeroValue205 }
theorem Tryz.bits_LeadingZeros64 (x : Int) (w : World) (h0 : 0 ≤ x) (h1 : x ≤ 18446744073709551615) :
 Calls Tryz.prog 199 #[.int .u64 x] w fun e w' => e = .returned (.int .i64 (64 - (Lib.bitLen x.toNat : Int))) ∧ w' = w := Any.bits_LeadingZeros64 Tryz.VE x w h0 h1
def Tryz.JX : Go.Shelf.Ren := ⟨fun | 264 => 147 | n => n, fun | 53 => 205 | 46 => 209 | n => n, fun | n => n⟩
theorem Tryz.lays264 : Go.Proofs.Lays.n264 Tryz.prog Tryz.JX := {
 mixed := by kernel_rfl
 f264 := Tryz.func147.trans (congrArg some (by kernel_rfl))
 t46 := Tryz.underlying209
 a46 := Tryz.isAgg209
 z46 := Tryz.sizeOf209
 v46 := Tryz.zeroValue209
 t53 := Tryz.underlying205
 a53 := Tryz.isAgg205
 z53 := Tryz.sizeOf205
 v53 := Tryz.zeroValue205 }
open Go.RowKit Go.Lib in
theorem Tryz.bits_Mul64 (x y : Nat) (hx : x < 18446744073709551616) (hy : y < 18446744073709551616) (w : World) :
 Calls Tryz.prog 147 #[.int .u64 x, .int .u64 y] w fun e w' => e = .returned (.tuple #[.int .u64 ((x * y / 18446744073709551616 : Nat) : Int), .int .u64 ((x * y % 18446744073709551616 : Nat) : Int)]) ∧ w' = w := Any.bits_Mul64 Tryz.lays264 x y hx hy w
def Tryz.JY : Go.Shelf.Ren := ⟨fun | 212 => 211 | 263 => 212 | 264 => 147 | n => n, fun | 46 => 209 | 51 => 267 | 146 => 268 | 53 => 205 | 148 => 206 | n => n, fun | n => n⟩
theorem Tryz.lays212 : Go.Proofs.Lays.n212 Tryz.prog Tryz.JY := {
 mixed := by kernel_rfl
 f212 := Tryz.func211.trans (congrArg some (by kernel_rfl))
 f263 := Tryz.func212.trans (congrArg some (by kernel_rfl))
 f264 := Tryz.func147.trans (congrArg some (by kernel_rfl))
 t46 := Tryz.underlying209
 a46 := Tryz.isAgg209
 z46 := Tryz.sizeOf209
 v46 := Tryz.zeroValue209
 t51 := Tryz.underlying267
 a51 := Tryz.isAgg267
 z51 := Tryz.sizeOf267
 v51 := Tryz.zeroValue267
 t53 := Tryz.underlying205
 a53 := Tryz.isAgg205
 z53 := Tryz.sizeOf205
 v53 := Tryz.zeroValue205
 t146 := Tryz.underlying268
 a146 := Tryz.isAgg268
 z146 := Tryz.sizeOf268
 v146 := Tryz.zeroValue268
 t148 := Tryz.underlying206
 a148 := Tryz.isAgg206
 z148 := Tryz.sizeOf206
 v148 := Tryz.zeroValue206 }
open Go.RowKit Go.Lib in
theorem Tryz.bits_Mul (x y : Nat) (hx : x < 18446744073709551616) (hy : y < 18446744073709551616) (w : World) :
 Calls Tryz.prog 211 #[.int .u64 x, .int .u64 y] w fun e w' => e = .returned (.tuple #[.int .u64 ((x * y / 18446744073709551616 : Nat) : Int), .int .u64 ((x * y % 18446744073709551616 : Nat) : Int)]) ∧ w' = w := Any.bits_Mul Tryz.lays212 x y hx hy w
end Go.Proofs

