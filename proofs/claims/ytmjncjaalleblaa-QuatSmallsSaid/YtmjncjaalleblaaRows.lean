/-
  No cell of these rows narrows 'for every input' (looked for: loops, veiled, ifaces, maps, wideKeys, modest, calm, conditions, laid).
  DERIVED. THE GIVEN ROWS OF THIS SEAT. 6 by the template 'for every input the law returns true; each argument reads behind the call as it read before'; 0 by the template 'total and deterministic' (their statements: YtmjncjaalleblaaTotals.lean).
  GIVEN WITH THE SEED: the statements are not yours to turn. If you find one false, say at which input.
  Laid BY PROGRAM, IN A SANDBOX (cutbox-rows.mjs): the forced cells as the released guide's own fill.sh prints them over the translation c06b6af0b3617354… (all of the seat's roots in one cut). By AI agents, Wed Nov 11 2026. No macro, syntax, notation, axiom, sorry.
-/
import Derived.Test.YtmjncjaalleblaaChecked
import GoSem.Claim
import GoSem.ClaimJoined
import GoSem.ClaimMapViews
import Derived.JoinedTies
import Derived.KernelRfl
namespace Go.Proofs.Ytmjncjaalleblaa
/- THE CELL 'sum', in the pinned program and in every row, IS THE sha256 OF THE DUMP (.gsa) THAT YtmjncjaalleblaaProg.lean LOADS. Nothing in Lean hashes anything: it is a label: what it is worth is what the hold of that sum in a sandbox is worth. -/
noncomputable def Try.pinned : Pinned := { name := "ytmjncjaalleblaa", sum := "c06b6af0b361735486dd15776ad099bd3986f0a0b442da6918b40323156b1030", checked := Try.checked }
namespace Rows
def none {H : Type} : Left H := { results := [], args := [] }

/-- 'alidadelaw04.QuatRounds': WHATEVER THE INPUT: true; the input reads as it did. -/
def quatRoundsSpec : ChangeSpec := { name := "quatRounds", fn := fun _ => fun
  | [d1, d2] => { results := [.lit (.bool true)], args := [d1, d2] }
  | _ => none }
def quatRoundsRow : OpenClaim := { program := "ytmjncjaalleblaa", sum := "c06b6af0b361735486dd15776ad099bd3986f0a0b442da6918b40323156b1030", func := "alidade/alidadelaw04.QuatRounds", spec := "quatRounds", unfollowed := true, recurses := true, apart := false }
def QuatRoundsSaid : Prop := quatRoundsRow.holds Try.pinned (OpenSpec.ofChange quatRoundsSpec)

/-- ITS FALSE NEIGHBOUR: 'it returns false'. Refute it at one input. -/
def quatRoundsWrong : ChangeSpec := { name := "quatRounds", fn := fun _ => fun
  | [d1, d2] => { results := [.lit (.bool false)], args := [d1, d2] }
  | _ => none }
def QuatRoundsWrongFalsely : Prop := quatRoundsRow.holds Try.pinned (OpenSpec.ofChange quatRoundsWrong)

/-- 'alidadelaw04.QuatWholes': WHATEVER THE INPUT: true; the input reads as it did. -/
def quatWholesSpec : ChangeSpec := { name := "quatWholes", fn := fun _ => fun
  | [d1, d2, d3] => { results := [.lit (.bool true)], args := [d1, d2, d3] }
  | _ => none }
def quatWholesRow : OpenClaim := { program := "ytmjncjaalleblaa", sum := "c06b6af0b361735486dd15776ad099bd3986f0a0b442da6918b40323156b1030", func := "alidade/alidadelaw04.QuatWholes", spec := "quatWholes", unfollowed := true, recurses := true, apart := false }
def QuatWholesSaid : Prop := quatWholesRow.holds Try.pinned (OpenSpec.ofChange quatWholesSpec)

/-- ITS FALSE NEIGHBOUR: 'it returns false'. Refute it at one input. -/
def quatWholesWrong : ChangeSpec := { name := "quatWholes", fn := fun _ => fun
  | [d1, d2, d3] => { results := [.lit (.bool false)], args := [d1, d2, d3] }
  | _ => none }
def QuatWholesWrongFalsely : Prop := quatWholesRow.holds Try.pinned (OpenSpec.ofChange quatWholesWrong)

/-- 'alidadelaw04.QuatConjs': WHATEVER THE INPUT: true; the input reads as it did. -/
def quatConjsSpec : ChangeSpec := { name := "quatConjs", fn := fun _ => fun
  | [d1, d2] => { results := [.lit (.bool true)], args := [d1, d2] }
  | _ => none }
def quatConjsRow : OpenClaim := { program := "ytmjncjaalleblaa", sum := "c06b6af0b361735486dd15776ad099bd3986f0a0b442da6918b40323156b1030", func := "alidade/alidadelaw04.QuatConjs", spec := "quatConjs", unfollowed := true, recurses := true, apart := false }
def QuatConjsSaid : Prop := quatConjsRow.holds Try.pinned (OpenSpec.ofChange quatConjsSpec)

/-- ITS FALSE NEIGHBOUR: 'it returns false'. Refute it at one input. -/
def quatConjsWrong : ChangeSpec := { name := "quatConjs", fn := fun _ => fun
  | [d1, d2] => { results := [.lit (.bool false)], args := [d1, d2] }
  | _ => none }
def QuatConjsWrongFalsely : Prop := quatConjsRow.holds Try.pinned (OpenSpec.ofChange quatConjsWrong)

/-- 'alidadelaw04.QuatTells': WHATEVER THE INPUT: true; the input reads as it did. -/
def quatTellsSpec : ChangeSpec := { name := "quatTells", fn := fun _ => fun
  | [d1, d2] => { results := [.lit (.bool true)], args := [d1, d2] }
  | _ => none }
def quatTellsRow : OpenClaim := { program := "ytmjncjaalleblaa", sum := "c06b6af0b361735486dd15776ad099bd3986f0a0b442da6918b40323156b1030", func := "alidade/alidadelaw04.QuatTells", spec := "quatTells", unfollowed := true, recurses := true, named := ["math/bits.divideError", "math/bits.overflowError"], apart := false }
def QuatTellsSaid : Prop := quatTellsRow.holds Try.pinned (OpenSpec.ofChange quatTellsSpec)

/-- ITS FALSE NEIGHBOUR: 'it returns false'. Refute it at one input. -/
def quatTellsWrong : ChangeSpec := { name := "quatTells", fn := fun _ => fun
  | [d1, d2] => { results := [.lit (.bool false)], args := [d1, d2] }
  | _ => none }
def QuatTellsWrongFalsely : Prop := quatTellsRow.holds Try.pinned (OpenSpec.ofChange quatTellsWrong)

/-- 'alidadelaw04.QuatUnits': WHATEVER THE INPUT: true; the input reads as it did. -/
def quatUnitsSpec : ChangeSpec := { name := "quatUnits", fn := fun _ => fun
  | [d] => { results := [.lit (.bool true)], args := [d] }
  | _ => none }
def quatUnitsRow : OpenClaim := { program := "ytmjncjaalleblaa", sum := "c06b6af0b361735486dd15776ad099bd3986f0a0b442da6918b40323156b1030", func := "alidade/alidadelaw04.QuatUnits", spec := "quatUnits", unfollowed := true, recurses := true, named := ["math/bits.divideError", "math/bits.overflowError"], apart := false }
def QuatUnitsSaid : Prop := quatUnitsRow.holds Try.pinned (OpenSpec.ofChange quatUnitsSpec)

/-- ITS FALSE NEIGHBOUR: 'it returns false'. Refute it at one input. -/
def quatUnitsWrong : ChangeSpec := { name := "quatUnits", fn := fun _ => fun
  | [d] => { results := [.lit (.bool false)], args := [d] }
  | _ => none }
def QuatUnitsWrongFalsely : Prop := quatUnitsRow.holds Try.pinned (OpenSpec.ofChange quatUnitsWrong)

/-- 'alidadelaw04.QuatSmalls': WHATEVER THE INPUT: true; the input reads as it did. -/
def quatSmallsSpec : ChangeSpec := { name := "quatSmalls", fn := fun _ => fun
  | [d1, d2] => { results := [.lit (.bool true)], args := [d1, d2] }
  | _ => none }
def quatSmallsRow : OpenClaim := { program := "ytmjncjaalleblaa", sum := "c06b6af0b361735486dd15776ad099bd3986f0a0b442da6918b40323156b1030", func := "alidade/alidadelaw04.QuatSmalls", spec := "quatSmalls", unfollowed := true, recurses := true, named := ["math/bits.divideError", "math/bits.overflowError"], apart := false }
def QuatSmallsSaid : Prop := quatSmallsRow.holds Try.pinned (OpenSpec.ofChange quatSmallsSpec)

/-- ITS FALSE NEIGHBOUR: 'it returns false'. Refute it at one input. -/
def quatSmallsWrong : ChangeSpec := { name := "quatSmalls", fn := fun _ => fun
  | [d1, d2] => { results := [.lit (.bool false)], args := [d1, d2] }
  | _ => none }
def QuatSmallsWrongFalsely : Prop := quatSmallsRow.holds Try.pinned (OpenSpec.ofChange quatSmallsWrong)

/- THE SECOND FORM. 'bulk': how many values and letters a reading holds, each counted each time it is reached (what is shared counts as often as it is met; a slice's spare places count too). A statement '..UptoSaid' is the law's where the arguments, and the package variables that the reading takes, are together of bulk at most 1048576: NARROWER than '..Said'. Prove '..Said' where nothing that the law and all that it calls make is longer than what came in: it says more and counts as full. Else prove '..UptoSaid'. A law counts once. -/
mutual
def uptoBulk {H : Type} : DataW H → Nat
  | .lit (.string bytes) => bytes.length + 1
  | .lit _ => 1
  | .nil => 1
  | .ptr d => uptoBulk d + 1
  | .slice elems spare => uptoBulkAll elems + uptoBulkAll spare + 1
  | .agg parts => uptoBulkAll parts + 1
  | .iface _ d => uptoBulk d + 1
  | .map entries => uptoBulkEntries entries + 1
  | .held _ => 1
def uptoBulkAll {H : Type} : List (DataW H) → Nat
  | [] => 0
  | d :: r => uptoBulk d + uptoBulkAll r
def uptoBulkEntries {H : Type} : List (Lit × DataW H) → Nat
  | [] => 0
  | x :: r => uptoBulkEntry x + uptoBulkEntries r
def uptoBulkEntry {H : Type} : Lit × DataW H → Nat
  | (.string bytes, d) => bytes.length + uptoBulk d + 1
  | (_, d) => uptoBulk d + 1
 end
def uptoSmall : (H : Type) → List (DataW H) → Bool := fun _ ds => decide (uptoBulkAll ds ≤ 1048576)
def OpenSpec.upto (s : _root_.Go.ChangeSpec) : _root_.Go.OpenSpec := { _root_.Go.OpenSpec.ofChange s with cond := some uptoSmall }

/-- 'alidadelaw04.QuatRounds', WHERE WHAT IT READS IS OF BULK AT MOST 1048576: true; the input reads as it did. -/
def quatRoundsUptoRow : OpenClaim := { program := "ytmjncjaalleblaa", sum := "c06b6af0b361735486dd15776ad099bd3986f0a0b442da6918b40323156b1030", func := "alidade/alidadelaw04.QuatRounds", spec := "quatRounds", unfollowed := true, recurses := true, apart := false, narrowed := true }
def QuatRoundsUptoSaid : Prop := quatRoundsUptoRow.holds Try.pinned (OpenSpec.upto quatRoundsSpec)

/-- 'alidadelaw04.QuatWholes', WHERE WHAT IT READS IS OF BULK AT MOST 1048576: true; the input reads as it did. -/
def quatWholesUptoRow : OpenClaim := { program := "ytmjncjaalleblaa", sum := "c06b6af0b361735486dd15776ad099bd3986f0a0b442da6918b40323156b1030", func := "alidade/alidadelaw04.QuatWholes", spec := "quatWholes", unfollowed := true, recurses := true, apart := false, narrowed := true }
def QuatWholesUptoSaid : Prop := quatWholesUptoRow.holds Try.pinned (OpenSpec.upto quatWholesSpec)

/-- 'alidadelaw04.QuatConjs', WHERE WHAT IT READS IS OF BULK AT MOST 1048576: true; the input reads as it did. -/
def quatConjsUptoRow : OpenClaim := { program := "ytmjncjaalleblaa", sum := "c06b6af0b361735486dd15776ad099bd3986f0a0b442da6918b40323156b1030", func := "alidade/alidadelaw04.QuatConjs", spec := "quatConjs", unfollowed := true, recurses := true, apart := false, narrowed := true }
def QuatConjsUptoSaid : Prop := quatConjsUptoRow.holds Try.pinned (OpenSpec.upto quatConjsSpec)

/-- 'alidadelaw04.QuatTells', WHERE WHAT IT READS IS OF BULK AT MOST 1048576: true; the input reads as it did. -/
def quatTellsUptoRow : OpenClaim := { program := "ytmjncjaalleblaa", sum := "c06b6af0b361735486dd15776ad099bd3986f0a0b442da6918b40323156b1030", func := "alidade/alidadelaw04.QuatTells", spec := "quatTells", unfollowed := true, recurses := true, named := ["math/bits.divideError", "math/bits.overflowError"], apart := false, narrowed := true }
def QuatTellsUptoSaid : Prop := quatTellsUptoRow.holds Try.pinned (OpenSpec.upto quatTellsSpec)

/-- 'alidadelaw04.QuatUnits', WHERE WHAT IT READS IS OF BULK AT MOST 1048576: true; the input reads as it did. -/
def quatUnitsUptoRow : OpenClaim := { program := "ytmjncjaalleblaa", sum := "c06b6af0b361735486dd15776ad099bd3986f0a0b442da6918b40323156b1030", func := "alidade/alidadelaw04.QuatUnits", spec := "quatUnits", unfollowed := true, recurses := true, named := ["math/bits.divideError", "math/bits.overflowError"], apart := false, narrowed := true }
def QuatUnitsUptoSaid : Prop := quatUnitsUptoRow.holds Try.pinned (OpenSpec.upto quatUnitsSpec)

/-- 'alidadelaw04.QuatSmalls', WHERE WHAT IT READS IS OF BULK AT MOST 1048576: true; the input reads as it did. -/
def quatSmallsUptoRow : OpenClaim := { program := "ytmjncjaalleblaa", sum := "c06b6af0b361735486dd15776ad099bd3986f0a0b442da6918b40323156b1030", func := "alidade/alidadelaw04.QuatSmalls", spec := "quatSmalls", unfollowed := true, recurses := true, named := ["math/bits.divideError", "math/bits.overflowError"], apart := false, narrowed := true }
def QuatSmallsUptoSaid : Prop := quatSmallsUptoRow.holds Try.pinned (OpenSpec.upto quatSmallsSpec)

end Rows
end Go.Proofs.Ytmjncjaalleblaa
