/-
  No cell of these rows narrows 'for every input' (looked for: loops, veiled, ifaces, maps, wideKeys, modest, calm, conditions, laid).
  DERIVED. THE GIVEN ROWS OF THIS SEAT. 10 by the template 'for every input the law returns true; each argument reads behind the call as it read before'; 0 by the template 'total and deterministic' (their statements: YtnijhjbcjeohhaaTotals.lean).
  GIVEN WITH THE SEED: the statements are not yours to turn. If you find one false, say at which input.
  Laid BY PROGRAM, IN A SANDBOX (cutbox-rows.mjs): the forced cells as the released guide's own fill.sh prints them over the translation 91ca520a523858fd… (all of the seat's roots in one cut). By AI agents, Wed Nov 11 2026. No macro, syntax, notation, axiom, sorry.
-/
import Derived.Test.YtnijhjbcjeohhaaChecked
import GoSem.Claim
import GoSem.ClaimJoined
import GoSem.ClaimMapViews
import Derived.JoinedTies
import Derived.KernelRfl
namespace Go.Proofs.Ytnijhjbcjeohhaa
/- THE CELL 'sum', in the pinned program and in every row, IS THE sha256 OF THE DUMP (.gsa) THAT YtnijhjbcjeohhaaProg.lean LOADS. Nothing in Lean hashes anything: it is a label: what it is worth is what the hold of that sum in a sandbox is worth. -/
noncomputable def Try.pinned : Pinned := { name := "ytnijhjbcjeohhaa", sum := "91ca520a523858fd7cbce8842b4ebbf78a94758a360414a7d37e106f69d6d52b", checked := Try.checked }
namespace Rows
def none {H : Type} : Left H := { results := [], args := [] }

/-- 'alidadelaw06.EstSteady': WHATEVER THE INPUT: true; the input reads as it did. -/
def estSteadySpec : ChangeSpec := { name := "estSteady", fn := fun _ => fun
  | [d1, d2] => { results := [.lit (.bool true)], args := [d1, d2] }
  | _ => none }
def estSteadyRow : OpenClaim := { program := "ytnijhjbcjeohhaa", sum := "91ca520a523858fd7cbce8842b4ebbf78a94758a360414a7d37e106f69d6d52b", func := "alidade/alidadelaw06.EstSteady", spec := "estSteady", unfollowed := true, recurses := true, named := ["math/bits.divideError", "math/bits.overflowError"], apart := false }
def EstSteadySaid : Prop := estSteadyRow.holds Try.pinned (OpenSpec.ofChange estSteadySpec)

/-- ITS FALSE NEIGHBOUR: 'it returns false'. Refute it at one input. -/
def estSteadyWrong : ChangeSpec := { name := "estSteady", fn := fun _ => fun
  | [d1, d2] => { results := [.lit (.bool false)], args := [d1, d2] }
  | _ => none }
def EstSteadyWrongFalsely : Prop := estSteadyRow.holds Try.pinned (OpenSpec.ofChange estSteadyWrong)

/-- 'alidadelaw06.EstCounts': WHATEVER THE INPUT: true; the input reads as it did. -/
def estCountsSpec : ChangeSpec := { name := "estCounts", fn := fun _ => fun
  | [d1, d2, d3] => { results := [.lit (.bool true)], args := [d1, d2, d3] }
  | _ => none }
def estCountsRow : OpenClaim := { program := "ytnijhjbcjeohhaa", sum := "91ca520a523858fd7cbce8842b4ebbf78a94758a360414a7d37e106f69d6d52b", func := "alidade/alidadelaw06.EstCounts", spec := "estCounts", unfollowed := true, recurses := true, named := ["math/bits.divideError", "math/bits.overflowError"], apart := false }
def EstCountsSaid : Prop := estCountsRow.holds Try.pinned (OpenSpec.ofChange estCountsSpec)

/-- ITS FALSE NEIGHBOUR: 'it returns false'. Refute it at one input. -/
def estCountsWrong : ChangeSpec := { name := "estCounts", fn := fun _ => fun
  | [d1, d2, d3] => { results := [.lit (.bool false)], args := [d1, d2, d3] }
  | _ => none }
def EstCountsWrongFalsely : Prop := estCountsRow.holds Try.pinned (OpenSpec.ofChange estCountsWrong)

/-- 'alidadelaw06.EstAlone': WHATEVER THE INPUT: true; the input reads as it did. -/
def estAloneSpec : ChangeSpec := { name := "estAlone", fn := fun _ => fun
  | [d1, d2, d3] => { results := [.lit (.bool true)], args := [d1, d2, d3] }
  | _ => none }
def estAloneRow : OpenClaim := { program := "ytnijhjbcjeohhaa", sum := "91ca520a523858fd7cbce8842b4ebbf78a94758a360414a7d37e106f69d6d52b", func := "alidade/alidadelaw06.EstAlone", spec := "estAlone", unfollowed := true, recurses := true, named := ["math/bits.divideError", "math/bits.overflowError"], apart := false }
def EstAloneSaid : Prop := estAloneRow.holds Try.pinned (OpenSpec.ofChange estAloneSpec)

/-- ITS FALSE NEIGHBOUR: 'it returns false'. Refute it at one input. -/
def estAloneWrong : ChangeSpec := { name := "estAlone", fn := fun _ => fun
  | [d1, d2, d3] => { results := [.lit (.bool false)], args := [d1, d2, d3] }
  | _ => none }
def EstAloneWrongFalsely : Prop := estAloneRow.holds Try.pinned (OpenSpec.ofChange estAloneWrong)

/-- 'alidadelaw06.EstBack': WHATEVER THE INPUT: true; the input reads as it did. -/
def estBackSpec : ChangeSpec := { name := "estBack", fn := fun _ => fun
  | [d] => { results := [.lit (.bool true)], args := [d] }
  | _ => none }
def estBackRow : OpenClaim := { program := "ytnijhjbcjeohhaa", sum := "91ca520a523858fd7cbce8842b4ebbf78a94758a360414a7d37e106f69d6d52b", func := "alidade/alidadelaw06.EstBack", spec := "estBack", unfollowed := true, recurses := true, named := ["math/bits.divideError", "math/bits.overflowError"], apart := false }
def EstBackSaid : Prop := estBackRow.holds Try.pinned (OpenSpec.ofChange estBackSpec)

/-- ITS FALSE NEIGHBOUR: 'it returns false'. Refute it at one input. -/
def estBackWrong : ChangeSpec := { name := "estBack", fn := fun _ => fun
  | [d] => { results := [.lit (.bool false)], args := [d] }
  | _ => none }
def EstBackWrongFalsely : Prop := estBackRow.holds Try.pinned (OpenSpec.ofChange estBackWrong)

/-- 'alidadelaw13.BookRows': WHATEVER THE INPUT: true; the input reads as it did. -/
def bookRowsSpec : ChangeSpec := { name := "bookRows", fn := fun _ => fun
  | [d] => { results := [.lit (.bool true)], args := [d] }
  | _ => none }
def bookRowsRow : OpenClaim := { program := "ytnijhjbcjeohhaa", sum := "91ca520a523858fd7cbce8842b4ebbf78a94758a360414a7d37e106f69d6d52b", func := "alidade/alidadelaw13.BookRows", spec := "bookRows", unfollowed := true, recurses := true, named := ["math/bits.divideError", "math/bits.overflowError"], apart := false }
def BookRowsSaid : Prop := bookRowsRow.holds Try.pinned (OpenSpec.ofChange bookRowsSpec)

/-- ITS FALSE NEIGHBOUR: 'it returns false'. Refute it at one input. -/
def bookRowsWrong : ChangeSpec := { name := "bookRows", fn := fun _ => fun
  | [d] => { results := [.lit (.bool false)], args := [d] }
  | _ => none }
def BookRowsWrongFalsely : Prop := bookRowsRow.holds Try.pinned (OpenSpec.ofChange bookRowsWrong)

/-- 'alidadelaw13.BookBegins': WHATEVER THE INPUT: true; the input reads as it did. -/
def bookBeginsSpec : ChangeSpec := { name := "bookBegins", fn := fun _ => fun
  | [d] => { results := [.lit (.bool true)], args := [d] }
  | _ => none }
def bookBeginsRow : OpenClaim := { program := "ytnijhjbcjeohhaa", sum := "91ca520a523858fd7cbce8842b4ebbf78a94758a360414a7d37e106f69d6d52b", func := "alidade/alidadelaw13.BookBegins", spec := "bookBegins", unfollowed := true, recurses := true, named := ["math/bits.divideError", "math/bits.overflowError"], apart := false }
def BookBeginsSaid : Prop := bookBeginsRow.holds Try.pinned (OpenSpec.ofChange bookBeginsSpec)

/-- ITS FALSE NEIGHBOUR: 'it returns false'. Refute it at one input. -/
def bookBeginsWrong : ChangeSpec := { name := "bookBegins", fn := fun _ => fun
  | [d] => { results := [.lit (.bool false)], args := [d] }
  | _ => none }
def BookBeginsWrongFalsely : Prop := bookBeginsRow.holds Try.pinned (OpenSpec.ofChange bookBeginsWrong)

/-- 'alidadelaw13.BookRises': WHATEVER THE INPUT: true; the input reads as it did. -/
def bookRisesSpec : ChangeSpec := { name := "bookRises", fn := fun _ => fun
  | [d1, d2] => { results := [.lit (.bool true)], args := [d1, d2] }
  | _ => none }
def bookRisesRow : OpenClaim := { program := "ytnijhjbcjeohhaa", sum := "91ca520a523858fd7cbce8842b4ebbf78a94758a360414a7d37e106f69d6d52b", func := "alidade/alidadelaw13.BookRises", spec := "bookRises", unfollowed := true, recurses := true, named := ["math/bits.divideError", "math/bits.overflowError"], apart := false }
def BookRisesSaid : Prop := bookRisesRow.holds Try.pinned (OpenSpec.ofChange bookRisesSpec)

/-- ITS FALSE NEIGHBOUR: 'it returns false'. Refute it at one input. -/
def bookRisesWrong : ChangeSpec := { name := "bookRises", fn := fun _ => fun
  | [d1, d2] => { results := [.lit (.bool false)], args := [d1, d2] }
  | _ => none }
def BookRisesWrongFalsely : Prop := bookRisesRow.holds Try.pinned (OpenSpec.ofChange bookRisesWrong)

/-- 'alidadelaw13.BookAll': WHATEVER THE INPUT: true; the input reads as it did. -/
def bookAllSpec : ChangeSpec := { name := "bookAll", fn := fun _ => fun
  | [d] => { results := [.lit (.bool true)], args := [d] }
  | _ => none }
def bookAllRow : OpenClaim := { program := "ytnijhjbcjeohhaa", sum := "91ca520a523858fd7cbce8842b4ebbf78a94758a360414a7d37e106f69d6d52b", func := "alidade/alidadelaw13.BookAll", spec := "bookAll", unfollowed := true, recurses := true, named := ["math/bits.divideError", "math/bits.overflowError"], apart := false }
def BookAllSaid : Prop := bookAllRow.holds Try.pinned (OpenSpec.ofChange bookAllSpec)

/-- ITS FALSE NEIGHBOUR: 'it returns false'. Refute it at one input. -/
def bookAllWrong : ChangeSpec := { name := "bookAll", fn := fun _ => fun
  | [d] => { results := [.lit (.bool false)], args := [d] }
  | _ => none }
def BookAllWrongFalsely : Prop := bookAllRow.holds Try.pinned (OpenSpec.ofChange bookAllWrong)

/-- 'alidadelaw13.BookBeginnings': WHATEVER THE INPUT: true; the input reads as it did. -/
def bookBeginningsSpec : ChangeSpec := { name := "bookBeginnings", fn := fun _ => fun
  | [d1, d2, d3] => { results := [.lit (.bool true)], args := [d1, d2, d3] }
  | _ => none }
def bookBeginningsRow : OpenClaim := { program := "ytnijhjbcjeohhaa", sum := "91ca520a523858fd7cbce8842b4ebbf78a94758a360414a7d37e106f69d6d52b", func := "alidade/alidadelaw13.BookBeginnings", spec := "bookBeginnings", unfollowed := true, recurses := true, named := ["math/bits.divideError", "math/bits.overflowError"], apart := false }
def BookBeginningsSaid : Prop := bookBeginningsRow.holds Try.pinned (OpenSpec.ofChange bookBeginningsSpec)

/-- ITS FALSE NEIGHBOUR: 'it returns false'. Refute it at one input. -/
def bookBeginningsWrong : ChangeSpec := { name := "bookBeginnings", fn := fun _ => fun
  | [d1, d2, d3] => { results := [.lit (.bool false)], args := [d1, d2, d3] }
  | _ => none }
def BookBeginningsWrongFalsely : Prop := bookBeginningsRow.holds Try.pinned (OpenSpec.ofChange bookBeginningsWrong)

/-- 'alidadelaw13.BookParts': WHATEVER THE INPUT: true; the input reads as it did. -/
def bookPartsSpec : ChangeSpec := { name := "bookParts", fn := fun _ => fun
  | [d1, d2] => { results := [.lit (.bool true)], args := [d1, d2] }
  | _ => none }
def bookPartsRow : OpenClaim := { program := "ytnijhjbcjeohhaa", sum := "91ca520a523858fd7cbce8842b4ebbf78a94758a360414a7d37e106f69d6d52b", func := "alidade/alidadelaw13.BookParts", spec := "bookParts", unfollowed := true, recurses := true, named := ["math/bits.divideError", "math/bits.overflowError"], apart := false }
def BookPartsSaid : Prop := bookPartsRow.holds Try.pinned (OpenSpec.ofChange bookPartsSpec)

/-- ITS FALSE NEIGHBOUR: 'it returns false'. Refute it at one input. -/
def bookPartsWrong : ChangeSpec := { name := "bookParts", fn := fun _ => fun
  | [d1, d2] => { results := [.lit (.bool false)], args := [d1, d2] }
  | _ => none }
def BookPartsWrongFalsely : Prop := bookPartsRow.holds Try.pinned (OpenSpec.ofChange bookPartsWrong)

/- THE SECOND FORM. 'bulk': how many values and letters a reading holds, each counted each time it is reached (what is shared counts as often as it is met; a slice's spare places count too). A statement '..UptoSaid' is the law's where the arguments, and the package variables that the reading takes, are together of bulk at most 1048576: NARROWER than '..Said'. Prove '..Said' where nothing that the law and all that it calls make is longer than what came in: it says more and counts as full. Else prove '..UptoSaid'. A law counts once. -/
mutual
def uptoBulk {H : Type} : DataW H → Nat
  | .lit (.string bytes) => bytes.length + 1
  | .lit _ => 1
  | .nil => 1
  | .ptr d => uptoBulk d + 1
  | .slice elems spare => uptoBulkAll elems + uptoBulkAll spare + 1
  | .agg parts => uptoBulkAll parts + 1
  | .iface _ d => uptoBulk d + 1
  | .map entries => uptoBulkEntries entries + 1
  | .held _ => 1
def uptoBulkAll {H : Type} : List (DataW H) → Nat
  | [] => 0
  | d :: r => uptoBulk d + uptoBulkAll r
def uptoBulkEntries {H : Type} : List (Lit × DataW H) → Nat
  | [] => 0
  | x :: r => uptoBulkEntry x + uptoBulkEntries r
def uptoBulkEntry {H : Type} : Lit × DataW H → Nat
  | (.string bytes, d) => bytes.length + uptoBulk d + 1
  | (_, d) => uptoBulk d + 1
 end
def uptoSmall : (H : Type) → List (DataW H) → Bool := fun _ ds => decide (uptoBulkAll ds ≤ 1048576)
def OpenSpec.upto (s : _root_.Go.ChangeSpec) : _root_.Go.OpenSpec := { _root_.Go.OpenSpec.ofChange s with cond := some uptoSmall }

/-- 'alidadelaw06.EstSteady', WHERE WHAT IT READS IS OF BULK AT MOST 1048576: true; the input reads as it did. -/
def estSteadyUptoRow : OpenClaim := { program := "ytnijhjbcjeohhaa", sum := "91ca520a523858fd7cbce8842b4ebbf78a94758a360414a7d37e106f69d6d52b", func := "alidade/alidadelaw06.EstSteady", spec := "estSteady", unfollowed := true, recurses := true, named := ["math/bits.divideError", "math/bits.overflowError"], apart := false, narrowed := true }
def EstSteadyUptoSaid : Prop := estSteadyUptoRow.holds Try.pinned (OpenSpec.upto estSteadySpec)

/-- 'alidadelaw06.EstCounts', WHERE WHAT IT READS IS OF BULK AT MOST 1048576: true; the input reads as it did. -/
def estCountsUptoRow : OpenClaim := { program := "ytnijhjbcjeohhaa", sum := "91ca520a523858fd7cbce8842b4ebbf78a94758a360414a7d37e106f69d6d52b", func := "alidade/alidadelaw06.EstCounts", spec := "estCounts", unfollowed := true, recurses := true, named := ["math/bits.divideError", "math/bits.overflowError"], apart := false, narrowed := true }
def EstCountsUptoSaid : Prop := estCountsUptoRow.holds Try.pinned (OpenSpec.upto estCountsSpec)

/-- 'alidadelaw06.EstAlone', WHERE WHAT IT READS IS OF BULK AT MOST 1048576: true; the input reads as it did. -/
def estAloneUptoRow : OpenClaim := { program := "ytnijhjbcjeohhaa", sum := "91ca520a523858fd7cbce8842b4ebbf78a94758a360414a7d37e106f69d6d52b", func := "alidade/alidadelaw06.EstAlone", spec := "estAlone", unfollowed := true, recurses := true, named := ["math/bits.divideError", "math/bits.overflowError"], apart := false, narrowed := true }
def EstAloneUptoSaid : Prop := estAloneUptoRow.holds Try.pinned (OpenSpec.upto estAloneSpec)

/-- 'alidadelaw06.EstBack', WHERE WHAT IT READS IS OF BULK AT MOST 1048576: true; the input reads as it did. -/
def estBackUptoRow : OpenClaim := { program := "ytnijhjbcjeohhaa", sum := "91ca520a523858fd7cbce8842b4ebbf78a94758a360414a7d37e106f69d6d52b", func := "alidade/alidadelaw06.EstBack", spec := "estBack", unfollowed := true, recurses := true, named := ["math/bits.divideError", "math/bits.overflowError"], apart := false, narrowed := true }
def EstBackUptoSaid : Prop := estBackUptoRow.holds Try.pinned (OpenSpec.upto estBackSpec)

/-- 'alidadelaw13.BookRows', WHERE WHAT IT READS IS OF BULK AT MOST 1048576: true; the input reads as it did. -/
def bookRowsUptoRow : OpenClaim := { program := "ytnijhjbcjeohhaa", sum := "91ca520a523858fd7cbce8842b4ebbf78a94758a360414a7d37e106f69d6d52b", func := "alidade/alidadelaw13.BookRows", spec := "bookRows", unfollowed := true, recurses := true, named := ["math/bits.divideError", "math/bits.overflowError"], apart := false, narrowed := true }
def BookRowsUptoSaid : Prop := bookRowsUptoRow.holds Try.pinned (OpenSpec.upto bookRowsSpec)

/-- 'alidadelaw13.BookBegins', WHERE WHAT IT READS IS OF BULK AT MOST 1048576: true; the input reads as it did. -/
def bookBeginsUptoRow : OpenClaim := { program := "ytnijhjbcjeohhaa", sum := "91ca520a523858fd7cbce8842b4ebbf78a94758a360414a7d37e106f69d6d52b", func := "alidade/alidadelaw13.BookBegins", spec := "bookBegins", unfollowed := true, recurses := true, named := ["math/bits.divideError", "math/bits.overflowError"], apart := false, narrowed := true }
def BookBeginsUptoSaid : Prop := bookBeginsUptoRow.holds Try.pinned (OpenSpec.upto bookBeginsSpec)

/-- 'alidadelaw13.BookRises', WHERE WHAT IT READS IS OF BULK AT MOST 1048576: true; the input reads as it did. -/
def bookRisesUptoRow : OpenClaim := { program := "ytnijhjbcjeohhaa", sum := "91ca520a523858fd7cbce8842b4ebbf78a94758a360414a7d37e106f69d6d52b", func := "alidade/alidadelaw13.BookRises", spec := "bookRises", unfollowed := true, recurses := true, named := ["math/bits.divideError", "math/bits.overflowError"], apart := false, narrowed := true }
def BookRisesUptoSaid : Prop := bookRisesUptoRow.holds Try.pinned (OpenSpec.upto bookRisesSpec)

/-- 'alidadelaw13.BookAll', WHERE WHAT IT READS IS OF BULK AT MOST 1048576: true; the input reads as it did. -/
def bookAllUptoRow : OpenClaim := { program := "ytnijhjbcjeohhaa", sum := "91ca520a523858fd7cbce8842b4ebbf78a94758a360414a7d37e106f69d6d52b", func := "alidade/alidadelaw13.BookAll", spec := "bookAll", unfollowed := true, recurses := true, named := ["math/bits.divideError", "math/bits.overflowError"], apart := false, narrowed := true }
def BookAllUptoSaid : Prop := bookAllUptoRow.holds Try.pinned (OpenSpec.upto bookAllSpec)

/-- 'alidadelaw13.BookBeginnings', WHERE WHAT IT READS IS OF BULK AT MOST 1048576: true; the input reads as it did. -/
def bookBeginningsUptoRow : OpenClaim := { program := "ytnijhjbcjeohhaa", sum := "91ca520a523858fd7cbce8842b4ebbf78a94758a360414a7d37e106f69d6d52b", func := "alidade/alidadelaw13.BookBeginnings", spec := "bookBeginnings", unfollowed := true, recurses := true, named := ["math/bits.divideError", "math/bits.overflowError"], apart := false, narrowed := true }
def BookBeginningsUptoSaid : Prop := bookBeginningsUptoRow.holds Try.pinned (OpenSpec.upto bookBeginningsSpec)

/-- 'alidadelaw13.BookParts', WHERE WHAT IT READS IS OF BULK AT MOST 1048576: true; the input reads as it did. -/
def bookPartsUptoRow : OpenClaim := { program := "ytnijhjbcjeohhaa", sum := "91ca520a523858fd7cbce8842b4ebbf78a94758a360414a7d37e106f69d6d52b", func := "alidade/alidadelaw13.BookParts", spec := "bookParts", unfollowed := true, recurses := true, named := ["math/bits.divideError", "math/bits.overflowError"], apart := false, narrowed := true }
def BookPartsUptoSaid : Prop := bookPartsUptoRow.holds Try.pinned (OpenSpec.upto bookPartsSpec)

end Rows
end Go.Proofs.Ytnijhjbcjeohhaa
