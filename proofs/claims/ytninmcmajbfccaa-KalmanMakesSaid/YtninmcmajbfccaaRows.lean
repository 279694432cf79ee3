/-
  No cell of these rows narrows 'for every input' (looked for: loops, veiled, ifaces, maps, wideKeys, modest, calm, conditions, laid).
  DERIVED. THE GIVEN ROWS OF THIS SEAT. 8 by the template 'for every input the law returns true; each argument reads behind the call as it read before'; 0 by the template 'total and deterministic' (their statements: YtninmcmajbfccaaTotals.lean).
  GIVEN WITH THE SEED: the statements are not yours to turn. If you find one false, say at which input.
  Laid BY PROGRAM, IN A SANDBOX (cutbox-rows.mjs): the forced cells as the released guide's own fill.sh prints them over the translation 44f7a898ac7788d4… (all of the seat's roots in one cut). By AI agents, Wed Nov 11 2026. No macro, syntax, notation, axiom, sorry.
-/
import Derived.Test.YtninmcmajbfccaaChecked
import GoSem.Claim
import GoSem.ClaimJoined
import GoSem.ClaimMapViews
import Derived.JoinedTies
import Derived.KernelRfl
namespace Go.Proofs.Ytninmcmajbfccaa
/- THE CELL 'sum', in the pinned program and in every row, IS THE sha256 OF THE DUMP (.gsa) THAT YtninmcmajbfccaaProg.lean LOADS. Nothing in Lean hashes anything: it is a label: what it is worth is what the hold of that sum in a sandbox is worth. -/
noncomputable def Try.pinned : Pinned := { name := "ytninmcmajbfccaa", sum := "44f7a898ac7788d472e5ad69603e569804c6a20485b552b3d5648d5f5a771249", checked := Try.checked }
namespace Rows
def none {H : Type} : Left H := { results := [], args := [] }

/-- 'alidadelaw05.KalmanSure': WHATEVER THE INPUT: true; the input reads as it did. -/
def kalmanSureSpec : ChangeSpec := { name := "kalmanSure", fn := fun _ => fun
  | [d1, d2, d3] => { results := [.lit (.bool true)], args := [d1, d2, d3] }
  | _ => none }
def kalmanSureRow : OpenClaim := { program := "ytninmcmajbfccaa", sum := "44f7a898ac7788d472e5ad69603e569804c6a20485b552b3d5648d5f5a771249", func := "alidade/alidadelaw05.KalmanSure", spec := "kalmanSure", unfollowed := true, recurses := true, named := ["math/bits.divideError", "math/bits.overflowError"], apart := false }
def KalmanSureSaid : Prop := kalmanSureRow.holds Try.pinned (OpenSpec.ofChange kalmanSureSpec)

/-- ITS FALSE NEIGHBOUR: 'it returns false'. Refute it at one input. -/
def kalmanSureWrong : ChangeSpec := { name := "kalmanSure", fn := fun _ => fun
  | [d1, d2, d3] => { results := [.lit (.bool false)], args := [d1, d2, d3] }
  | _ => none }
def KalmanSureWrongFalsely : Prop := kalmanSureRow.holds Try.pinned (OpenSpec.ofChange kalmanSureWrong)

/-- 'alidadelaw05.KalmanShrinks': WHATEVER THE INPUT: true; the input reads as it did. -/
def kalmanShrinksSpec : ChangeSpec := { name := "kalmanShrinks", fn := fun _ => fun
  | [d] => { results := [.lit (.bool true)], args := [d] }
  | _ => none }
def kalmanShrinksRow : OpenClaim := { program := "ytninmcmajbfccaa", sum := "44f7a898ac7788d472e5ad69603e569804c6a20485b552b3d5648d5f5a771249", func := "alidade/alidadelaw05.KalmanShrinks", spec := "kalmanShrinks", unfollowed := true, recurses := true, named := ["math/bits.divideError", "math/bits.overflowError"], apart := false }
def KalmanShrinksSaid : Prop := kalmanShrinksRow.holds Try.pinned (OpenSpec.ofChange kalmanShrinksSpec)

/-- ITS FALSE NEIGHBOUR: 'it returns false'. Refute it at one input. -/
def kalmanShrinksWrong : ChangeSpec := { name := "kalmanShrinks", fn := fun _ => fun
  | [d] => { results := [.lit (.bool false)], args := [d] }
  | _ => none }
def KalmanShrinksWrongFalsely : Prop := kalmanShrinksRow.holds Try.pinned (OpenSpec.ofChange kalmanShrinksWrong)

/-- 'alidadelaw05.KalmanGoods': WHATEVER THE INPUT: true; the input reads as it did. -/
def kalmanGoodsSpec : ChangeSpec := { name := "kalmanGoods", fn := fun _ => fun
  | [d] => { results := [.lit (.bool true)], args := [d] }
  | _ => none }
def kalmanGoodsRow : OpenClaim := { program := "ytninmcmajbfccaa", sum := "44f7a898ac7788d472e5ad69603e569804c6a20485b552b3d5648d5f5a771249", func := "alidade/alidadelaw05.KalmanGoods", spec := "kalmanGoods", unfollowed := true, recurses := true, named := ["math/bits.divideError", "math/bits.overflowError"], apart := false }
def KalmanGoodsSaid : Prop := kalmanGoodsRow.holds Try.pinned (OpenSpec.ofChange kalmanGoodsSpec)

/-- ITS FALSE NEIGHBOUR: 'it returns false'. Refute it at one input. -/
def kalmanGoodsWrong : ChangeSpec := { name := "kalmanGoods", fn := fun _ => fun
  | [d] => { results := [.lit (.bool false)], args := [d] }
  | _ => none }
def KalmanGoodsWrongFalsely : Prop := kalmanGoodsRow.holds Try.pinned (OpenSpec.ofChange kalmanGoodsWrong)

/-- 'alidadelaw05.KalmanMakes': WHATEVER THE INPUT: true; the input reads as it did. -/
def kalmanMakesSpec : ChangeSpec := { name := "kalmanMakes", fn := fun _ => fun
  | [d] => { results := [.lit (.bool true)], args := [d] }
  | _ => none }
def kalmanMakesRow : OpenClaim := { program := "ytninmcmajbfccaa", sum := "44f7a898ac7788d472e5ad69603e569804c6a20485b552b3d5648d5f5a771249", func := "alidade/alidadelaw05.KalmanMakes", spec := "kalmanMakes", unfollowed := true, recurses := true, named := ["math/bits.divideError", "math/bits.overflowError"], apart := false }
def KalmanMakesSaid : Prop := kalmanMakesRow.holds Try.pinned (OpenSpec.ofChange kalmanMakesSpec)

/-- ITS FALSE NEIGHBOUR: 'it returns false'. Refute it at one input. -/
def kalmanMakesWrong : ChangeSpec := { name := "kalmanMakes", fn := fun _ => fun
  | [d] => { results := [.lit (.bool false)], args := [d] }
  | _ => none }
def KalmanMakesWrongFalsely : Prop := kalmanMakesRow.holds Try.pinned (OpenSpec.ofChange kalmanMakesWrong)

/-- 'alidadelaw05.KalmanGates': WHATEVER THE INPUT: true; the input reads as it did. -/
def kalmanGatesSpec : ChangeSpec := { name := "kalmanGates", fn := fun _ => fun
  | [d] => { results := [.lit (.bool true)], args := [d] }
  | _ => none }
def kalmanGatesRow : OpenClaim := { program := "ytninmcmajbfccaa", sum := "44f7a898ac7788d472e5ad69603e569804c6a20485b552b3d5648d5f5a771249", func := "alidade/alidadelaw05.KalmanGates", spec := "kalmanGates", unfollowed := true, recurses := true, named := ["math/bits.divideError", "math/bits.overflowError"], apart := false }
def KalmanGatesSaid : Prop := kalmanGatesRow.holds Try.pinned (OpenSpec.ofChange kalmanGatesSpec)

/-- ITS FALSE NEIGHBOUR: 'it returns false'. Refute it at one input. -/
def kalmanGatesWrong : ChangeSpec := { name := "kalmanGates", fn := fun _ => fun
  | [d] => { results := [.lit (.bool false)], args := [d] }
  | _ => none }
def KalmanGatesWrongFalsely : Prop := kalmanGatesRow.holds Try.pinned (OpenSpec.ofChange kalmanGatesWrong)

/-- 'alidadelaw05.KalmanStays': WHATEVER THE INPUT: true; the input reads as it did. -/
def kalmanStaysSpec : ChangeSpec := { name := "kalmanStays", fn := fun _ => fun
  | [d] => { results := [.lit (.bool true)], args := [d] }
  | _ => none }
def kalmanStaysRow : OpenClaim := { program := "ytninmcmajbfccaa", sum := "44f7a898ac7788d472e5ad69603e569804c6a20485b552b3d5648d5f5a771249", func := "alidade/alidadelaw05.KalmanStays", spec := "kalmanStays", unfollowed := true, recurses := true, named := ["math/bits.divideError", "math/bits.overflowError"], apart := false }
def KalmanStaysSaid : Prop := kalmanStaysRow.holds Try.pinned (OpenSpec.ofChange kalmanStaysSpec)

/-- ITS FALSE NEIGHBOUR: 'it returns false'. Refute it at one input. -/
def kalmanStaysWrong : ChangeSpec := { name := "kalmanStays", fn := fun _ => fun
  | [d] => { results := [.lit (.bool false)], args := [d] }
  | _ => none }
def KalmanStaysWrongFalsely : Prop := kalmanStaysRow.holds Try.pinned (OpenSpec.ofChange kalmanStaysWrong)

/-- 'alidadelaw05.KalmanEyes': WHATEVER THE INPUT: true; the input reads as it did. -/
def kalmanEyesSpec : ChangeSpec := { name := "kalmanEyes", fn := fun _ => fun
  | [d] => { results := [.lit (.bool true)], args := [d] }
  | _ => none }
def kalmanEyesRow : OpenClaim := { program := "ytninmcmajbfccaa", sum := "44f7a898ac7788d472e5ad69603e569804c6a20485b552b3d5648d5f5a771249", func := "alidade/alidadelaw05.KalmanEyes", spec := "kalmanEyes", unfollowed := true, recurses := true, named := ["math/bits.divideError", "math/bits.overflowError"], apart := false }
def KalmanEyesSaid : Prop := kalmanEyesRow.holds Try.pinned (OpenSpec.ofChange kalmanEyesSpec)

/-- ITS FALSE NEIGHBOUR: 'it returns false'. Refute it at one input. -/
def kalmanEyesWrong : ChangeSpec := { name := "kalmanEyes", fn := fun _ => fun
  | [d] => { results := [.lit (.bool false)], args := [d] }
  | _ => none }
def KalmanEyesWrongFalsely : Prop := kalmanEyesRow.holds Try.pinned (OpenSpec.ofChange kalmanEyesWrong)

/-- 'alidadelaw05.KalmanGoes': WHATEVER THE INPUT: true; the input reads as it did. -/
def kalmanGoesSpec : ChangeSpec := { name := "kalmanGoes", fn := fun _ => fun
  | [d] => { results := [.lit (.bool true)], args := [d] }
  | _ => none }
def kalmanGoesRow : OpenClaim := { program := "ytninmcmajbfccaa", sum := "44f7a898ac7788d472e5ad69603e569804c6a20485b552b3d5648d5f5a771249", func := "alidade/alidadelaw05.KalmanGoes", spec := "kalmanGoes", unfollowed := true, recurses := true, named := ["math/bits.divideError", "math/bits.overflowError"], apart := false }
def KalmanGoesSaid : Prop := kalmanGoesRow.holds Try.pinned (OpenSpec.ofChange kalmanGoesSpec)

/-- ITS FALSE NEIGHBOUR: 'it returns false'. Refute it at one input. -/
def kalmanGoesWrong : ChangeSpec := { name := "kalmanGoes", fn := fun _ => fun
  | [d] => { results := [.lit (.bool false)], args := [d] }
  | _ => none }
def KalmanGoesWrongFalsely : Prop := kalmanGoesRow.holds Try.pinned (OpenSpec.ofChange kalmanGoesWrong)

/- THE SECOND FORM. 'bulk': how many values and letters a reading holds, each counted each time it is reached (what is shared counts as often as it is met; a slice's spare places count too). A statement '..UptoSaid' is the law's where the arguments, and the package variables that the reading takes, are together of bulk at most 1048576: NARROWER than '..Said'. Prove '..Said' where nothing that the law and all that it calls make is longer than what came in: it says more and counts as full. Else prove '..UptoSaid'. A law counts once. -/
mutual
def uptoBulk {H : Type} : DataW H → Nat
  | .lit (.string bytes) => bytes.length + 1
  | .lit _ => 1
  | .nil => 1
  | .ptr d => uptoBulk d + 1
  | .slice elems spare => uptoBulkAll elems + uptoBulkAll spare + 1
  | .agg parts => uptoBulkAll parts + 1
  | .iface _ d => uptoBulk d + 1
  | .map entries => uptoBulkEntries entries + 1
  | .held _ => 1
def uptoBulkAll {H : Type} : List (DataW H) → Nat
  | [] => 0
  | d :: r => uptoBulk d + uptoBulkAll r
def uptoBulkEntries {H : Type} : List (Lit × DataW H) → Nat
  | [] => 0
  | x :: r => uptoBulkEntry x + uptoBulkEntries r
def uptoBulkEntry {H : Type} : Lit × DataW H → Nat
  | (.string bytes, d) => bytes.length + uptoBulk d + 1
  | (_, d) => uptoBulk d + 1
 end
def uptoSmall : (H : Type) → List (DataW H) → Bool := fun _ ds => decide (uptoBulkAll ds ≤ 1048576)
def OpenSpec.upto (s : _root_.Go.ChangeSpec) : _root_.Go.OpenSpec := { _root_.Go.OpenSpec.ofChange s with cond := some uptoSmall }

/-- 'alidadelaw05.KalmanSure', WHERE WHAT IT READS IS OF BULK AT MOST 1048576: true; the input reads as it did. -/
def kalmanSureUptoRow : OpenClaim := { program := "ytninmcmajbfccaa", sum := "44f7a898ac7788d472e5ad69603e569804c6a20485b552b3d5648d5f5a771249", func := "alidade/alidadelaw05.KalmanSure", spec := "kalmanSure", unfollowed := true, recurses := true, named := ["math/bits.divideError", "math/bits.overflowError"], apart := false, narrowed := true }
def KalmanSureUptoSaid : Prop := kalmanSureUptoRow.holds Try.pinned (OpenSpec.upto kalmanSureSpec)

/-- 'alidadelaw05.KalmanShrinks', WHERE WHAT IT READS IS OF BULK AT MOST 1048576: true; the input reads as it did. -/
def kalmanShrinksUptoRow : OpenClaim := { program := "ytninmcmajbfccaa", sum := "44f7a898ac7788d472e5ad69603e569804c6a20485b552b3d5648d5f5a771249", func := "alidade/alidadelaw05.KalmanShrinks", spec := "kalmanShrinks", unfollowed := true, recurses := true, named := ["math/bits.divideError", "math/bits.overflowError"], apart := false, narrowed := true }
def KalmanShrinksUptoSaid : Prop := kalmanShrinksUptoRow.holds Try.pinned (OpenSpec.upto kalmanShrinksSpec)

/-- 'alidadelaw05.KalmanGoods', WHERE WHAT IT READS IS OF BULK AT MOST 1048576: true; the input reads as it did. -/
def kalmanGoodsUptoRow : OpenClaim := { program := "ytninmcmajbfccaa", sum := "44f7a898ac7788d472e5ad69603e569804c6a20485b552b3d5648d5f5a771249", func := "alidade/alidadelaw05.KalmanGoods", spec := "kalmanGoods", unfollowed := true, recurses := true, named := ["math/bits.divideError", "math/bits.overflowError"], apart := false, narrowed := true }
def KalmanGoodsUptoSaid : Prop := kalmanGoodsUptoRow.holds Try.pinned (OpenSpec.upto kalmanGoodsSpec)

/-- 'alidadelaw05.KalmanMakes', WHERE WHAT IT READS IS OF BULK AT MOST 1048576: true; the input reads as it did. -/
def kalmanMakesUptoRow : OpenClaim := { program := "ytninmcmajbfccaa", sum := "44f7a898ac7788d472e5ad69603e569804c6a20485b552b3d5648d5f5a771249", func := "alidade/alidadelaw05.KalmanMakes", spec := "kalmanMakes", unfollowed := true, recurses := true, named := ["math/bits.divideError", "math/bits.overflowError"], apart := false, narrowed := true }
def KalmanMakesUptoSaid : Prop := kalmanMakesUptoRow.holds Try.pinned (OpenSpec.upto kalmanMakesSpec)

/-- 'alidadelaw05.KalmanGates', WHERE WHAT IT READS IS OF BULK AT MOST 1048576: true; the input reads as it did. -/
def kalmanGatesUptoRow : OpenClaim := { program := "ytninmcmajbfccaa", sum := "44f7a898ac7788d472e5ad69603e569804c6a20485b552b3d5648d5f5a771249", func := "alidade/alidadelaw05.KalmanGates", spec := "kalmanGates", unfollowed := true, recurses := true, named := ["math/bits.divideError", "math/bits.overflowError"], apart := false, narrowed := true }
def KalmanGatesUptoSaid : Prop := kalmanGatesUptoRow.holds Try.pinned (OpenSpec.upto kalmanGatesSpec)

/-- 'alidadelaw05.KalmanStays', WHERE WHAT IT READS IS OF BULK AT MOST 1048576: true; the input reads as it did. -/
def kalmanStaysUptoRow : OpenClaim := { program := "ytninmcmajbfccaa", sum := "44f7a898ac7788d472e5ad69603e569804c6a20485b552b3d5648d5f5a771249", func := "alidade/alidadelaw05.KalmanStays", spec := "kalmanStays", unfollowed := true, recurses := true, named := ["math/bits.divideError", "math/bits.overflowError"], apart := false, narrowed := true }
def KalmanStaysUptoSaid : Prop := kalmanStaysUptoRow.holds Try.pinned (OpenSpec.upto kalmanStaysSpec)

/-- 'alidadelaw05.KalmanEyes', WHERE WHAT IT READS IS OF BULK AT MOST 1048576: true; the input reads as it did. -/
def kalmanEyesUptoRow : OpenClaim := { program := "ytninmcmajbfccaa", sum := "44f7a898ac7788d472e5ad69603e569804c6a20485b552b3d5648d5f5a771249", func := "alidade/alidadelaw05.KalmanEyes", spec := "kalmanEyes", unfollowed := true, recurses := true, named := ["math/bits.divideError", "math/bits.overflowError"], apart := false, narrowed := true }
def KalmanEyesUptoSaid : Prop := kalmanEyesUptoRow.holds Try.pinned (OpenSpec.upto kalmanEyesSpec)

/-- 'alidadelaw05.KalmanGoes', WHERE WHAT IT READS IS OF BULK AT MOST 1048576: true; the input reads as it did. -/
def kalmanGoesUptoRow : OpenClaim := { program := "ytninmcmajbfccaa", sum := "44f7a898ac7788d472e5ad69603e569804c6a20485b552b3d5648d5f5a771249", func := "alidade/alidadelaw05.KalmanGoes", spec := "kalmanGoes", unfollowed := true, recurses := true, named := ["math/bits.divideError", "math/bits.overflowError"], apart := false, narrowed := true }
def KalmanGoesUptoSaid : Prop := kalmanGoesUptoRow.holds Try.pinned (OpenSpec.upto kalmanGoesSpec)

end Rows
end Go.Proofs.Ytninmcmajbfccaa
