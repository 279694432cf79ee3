/-
  No cell of these rows narrows 'for every input' (looked for: loops, veiled, ifaces, maps, wideKeys, modest, calm, conditions, laid).
  DERIVED. THE GIVEN ROWS OF THIS SEAT. 7 by the template 'for every input the law returns true; each argument reads behind the call as it read before'; 0 by the template 'total and deterministic' (their statements: YtbchepdaomhgeaaTotals.lean).
  GIVEN WITH THE SEED: the statements are not yours to turn. If you find one false, say at which input.
  Laid BY PROGRAM, IN A SANDBOX (cutbox-rows.mjs): the forced cells as the released guide's own fill.sh prints them over the translation a4d52f4b953fad1c… (all of the seat's roots in one cut). By AI agents, Wed Nov 11 2026. No macro, syntax, notation, axiom, sorry.
-/
import Derived.Test.YtbchepdaomhgeaaChecked
import GoSem.Claim
import GoSem.ClaimJoined
import GoSem.ClaimMapViews
import Derived.JoinedTies
import Derived.KernelRfl
namespace Go.Proofs.Ytbchepdaomhgeaa
/- THE CELL 'sum', in the pinned program and in every row, IS THE sha256 OF THE DUMP (.gsa) THAT YtbchepdaomhgeaaProg.lean LOADS. Nothing in Lean hashes anything: it is a label: what it is worth is what the hold of that sum in a sandbox is worth. -/
noncomputable def Try.pinned : Pinned := { name := "ytbchepdaomhgeaa", sum := "a4d52f4b953fad1cea4d088848e50e6ed5db5e8d4b00f9900e23972408bb433d", checked := Try.checked }
namespace Rows
def none {H : Type} : Left H := { results := [], args := [] }

/-- 'alidadelaw14.MirrorSteps': WHATEVER THE INPUT: true; the input reads as it did. -/
def mirrorStepsSpec : ChangeSpec := { name := "mirrorSteps", fn := fun _ => fun
  | [d] => { results := [.lit (.bool true)], args := [d] }
  | _ => none }
def mirrorStepsRow : OpenClaim := { program := "ytbchepdaomhgeaa", sum := "a4d52f4b953fad1cea4d088848e50e6ed5db5e8d4b00f9900e23972408bb433d", func := "alidade/alidadelaw14.MirrorSteps", spec := "mirrorSteps", unfollowed := true, recurses := true, apart := false }
def MirrorStepsSaid : Prop := mirrorStepsRow.holds Try.pinned (OpenSpec.ofChange mirrorStepsSpec)

/-- ITS FALSE NEIGHBOUR: 'it returns false'. Refute it at one input. -/
def mirrorStepsWrong : ChangeSpec := { name := "mirrorSteps", fn := fun _ => fun
  | [d] => { results := [.lit (.bool false)], args := [d] }
  | _ => none }
def MirrorStepsWrongFalsely : Prop := mirrorStepsRow.holds Try.pinned (OpenSpec.ofChange mirrorStepsWrong)

/-- 'alidadelaw14.MirrorBounds': WHATEVER THE INPUT: true; the input reads as it did. -/
def mirrorBoundsSpec : ChangeSpec := { name := "mirrorBounds", fn := fun _ => fun
  | [d] => { results := [.lit (.bool true)], args := [d] }
  | _ => none }
def mirrorBoundsRow : OpenClaim := { program := "ytbchepdaomhgeaa", sum := "a4d52f4b953fad1cea4d088848e50e6ed5db5e8d4b00f9900e23972408bb433d", func := "alidade/alidadelaw14.MirrorBounds", spec := "mirrorBounds", unfollowed := true, recurses := true, apart := false }
def MirrorBoundsSaid : Prop := mirrorBoundsRow.holds Try.pinned (OpenSpec.ofChange mirrorBoundsSpec)

/-- ITS FALSE NEIGHBOUR: 'it returns false'. Refute it at one input. -/
def mirrorBoundsWrong : ChangeSpec := { name := "mirrorBounds", fn := fun _ => fun
  | [d] => { results := [.lit (.bool false)], args := [d] }
  | _ => none }
def MirrorBoundsWrongFalsely : Prop := mirrorBoundsRow.holds Try.pinned (OpenSpec.ofChange mirrorBoundsWrong)

/-- 'alidadelaw14.MirrorAcks': WHATEVER THE INPUT: true; the input reads as it did. -/
def mirrorAcksSpec : ChangeSpec := { name := "mirrorAcks", fn := fun _ => fun
  | [d1, d2, d3] => { results := [.lit (.bool true)], args := [d1, d2, d3] }
  | _ => none }
def mirrorAcksRow : OpenClaim := { program := "ytbchepdaomhgeaa", sum := "a4d52f4b953fad1cea4d088848e50e6ed5db5e8d4b00f9900e23972408bb433d", func := "alidade/alidadelaw14.MirrorAcks", spec := "mirrorAcks", unfollowed := true, recurses := true, apart := false }
def MirrorAcksSaid : Prop := mirrorAcksRow.holds Try.pinned (OpenSpec.ofChange mirrorAcksSpec)

/-- ITS FALSE NEIGHBOUR: 'it returns false'. Refute it at one input. -/
def mirrorAcksWrong : ChangeSpec := { name := "mirrorAcks", fn := fun _ => fun
  | [d1, d2, d3] => { results := [.lit (.bool false)], args := [d1, d2, d3] }
  | _ => none }
def MirrorAcksWrongFalsely : Prop := mirrorAcksRow.holds Try.pinned (OpenSpec.ofChange mirrorAcksWrong)

/-- 'alidadelaw14.MirrorLeaves': WHATEVER THE INPUT: true; the input reads as it did. -/
def mirrorLeavesSpec : ChangeSpec := { name := "mirrorLeaves", fn := fun _ => fun
  | [d1, d2, d3] => { results := [.lit (.bool true)], args := [d1, d2, d3] }
  | _ => none }
def mirrorLeavesRow : OpenClaim := { program := "ytbchepdaomhgeaa", sum := "a4d52f4b953fad1cea4d088848e50e6ed5db5e8d4b00f9900e23972408bb433d", func := "alidade/alidadelaw14.MirrorLeaves", spec := "mirrorLeaves", unfollowed := true, recurses := true, apart := false }
def MirrorLeavesSaid : Prop := mirrorLeavesRow.holds Try.pinned (OpenSpec.ofChange mirrorLeavesSpec)

/-- ITS FALSE NEIGHBOUR: 'it returns false'. Refute it at one input. -/
def mirrorLeavesWrong : ChangeSpec := { name := "mirrorLeaves", fn := fun _ => fun
  | [d1, d2, d3] => { results := [.lit (.bool false)], args := [d1, d2, d3] }
  | _ => none }
def MirrorLeavesWrongFalsely : Prop := mirrorLeavesRow.holds Try.pinned (OpenSpec.ofChange mirrorLeavesWrong)

/-- 'alidadelaw14.MirrorFrees': WHATEVER THE INPUT: true; the input reads as it did. -/
def mirrorFreesSpec : ChangeSpec := { name := "mirrorFrees", fn := fun _ => fun
  | [d] => { results := [.lit (.bool true)], args := [d] }
  | _ => none }
def mirrorFreesRow : OpenClaim := { program := "ytbchepdaomhgeaa", sum := "a4d52f4b953fad1cea4d088848e50e6ed5db5e8d4b00f9900e23972408bb433d", func := "alidade/alidadelaw14.MirrorFrees", spec := "mirrorFrees", unfollowed := true, recurses := true, apart := false }
def MirrorFreesSaid : Prop := mirrorFreesRow.holds Try.pinned (OpenSpec.ofChange mirrorFreesSpec)

/-- ITS FALSE NEIGHBOUR: 'it returns false'. Refute it at one input. -/
def mirrorFreesWrong : ChangeSpec := { name := "mirrorFrees", fn := fun _ => fun
  | [d] => { results := [.lit (.bool false)], args := [d] }
  | _ => none }
def MirrorFreesWrongFalsely : Prop := mirrorFreesRow.holds Try.pinned (OpenSpec.ofChange mirrorFreesWrong)

/-- 'alidadelaw14.MirrorNumbers': WHATEVER THE INPUT: true; the input reads as it did. -/
def mirrorNumbersSpec : ChangeSpec := { name := "mirrorNumbers", fn := fun _ => fun
  | [d] => { results := [.lit (.bool true)], args := [d] }
  | _ => none }
def mirrorNumbersRow : OpenClaim := { program := "ytbchepdaomhgeaa", sum := "a4d52f4b953fad1cea4d088848e50e6ed5db5e8d4b00f9900e23972408bb433d", func := "alidade/alidadelaw14.MirrorNumbers", spec := "mirrorNumbers", unfollowed := true, recurses := true, apart := false }
def MirrorNumbersSaid : Prop := mirrorNumbersRow.holds Try.pinned (OpenSpec.ofChange mirrorNumbersSpec)

/-- ITS FALSE NEIGHBOUR: 'it returns false'. Refute it at one input. -/
def mirrorNumbersWrong : ChangeSpec := { name := "mirrorNumbers", fn := fun _ => fun
  | [d] => { results := [.lit (.bool false)], args := [d] }
  | _ => none }
def MirrorNumbersWrongFalsely : Prop := mirrorNumbersRow.holds Try.pinned (OpenSpec.ofChange mirrorNumbersWrong)

/-- 'alidadelaw14.MirrorTells': WHATEVER THE INPUT: true; the input reads as it did. -/
def mirrorTellsSpec : ChangeSpec := { name := "mirrorTells", fn := fun _ => fun
  | [d] => { results := [.lit (.bool true)], args := [d] }
  | _ => none }
def mirrorTellsRow : OpenClaim := { program := "ytbchepdaomhgeaa", sum := "a4d52f4b953fad1cea4d088848e50e6ed5db5e8d4b00f9900e23972408bb433d", func := "alidade/alidadelaw14.MirrorTells", spec := "mirrorTells", unfollowed := true, recurses := true, apart := false }
def MirrorTellsSaid : Prop := mirrorTellsRow.holds Try.pinned (OpenSpec.ofChange mirrorTellsSpec)

/-- ITS FALSE NEIGHBOUR: 'it returns false'. Refute it at one input. -/
def mirrorTellsWrong : ChangeSpec := { name := "mirrorTells", fn := fun _ => fun
  | [d] => { results := [.lit (.bool false)], args := [d] }
  | _ => none }
def MirrorTellsWrongFalsely : Prop := mirrorTellsRow.holds Try.pinned (OpenSpec.ofChange mirrorTellsWrong)

/- THE SECOND FORM. 'bulk': how many values and letters a reading holds, each counted each time it is reached (what is shared counts as often as it is met; a slice's spare places count too). A statement '..UptoSaid' is the law's where the arguments, and the package variables that the reading takes, are together of bulk at most 1048576: NARROWER than '..Said'. Prove '..Said' where nothing that the law and all that it calls make is longer than what came in: it says more and counts as full. Else prove '..UptoSaid'. A law counts once. -/
mutual
def uptoBulk {H : Type} : DataW H → Nat
  | .lit (.string bytes) => bytes.length + 1
  | .lit _ => 1
  | .nil => 1
  | .ptr d => uptoBulk d + 1
  | .slice elems spare => uptoBulkAll elems + uptoBulkAll spare + 1
  | .agg parts => uptoBulkAll parts + 1
  | .iface _ d => uptoBulk d + 1
  | .map entries => uptoBulkEntries entries + 1
  | .held _ => 1
def uptoBulkAll {H : Type} : List (DataW H) → Nat
  | [] => 0
  | d :: r => uptoBulk d + uptoBulkAll r
def uptoBulkEntries {H : Type} : List (Lit × DataW H) → Nat
  | [] => 0
  | x :: r => uptoBulkEntry x + uptoBulkEntries r
def uptoBulkEntry {H : Type} : Lit × DataW H → Nat
  | (.string bytes, d) => bytes.length + uptoBulk d + 1
  | (_, d) => uptoBulk d + 1
 end
def uptoSmall : (H : Type) → List (DataW H) → Bool := fun _ ds => decide (uptoBulkAll ds ≤ 1048576)
def OpenSpec.upto (s : _root_.Go.ChangeSpec) : _root_.Go.OpenSpec := { _root_.Go.OpenSpec.ofChange s with cond := some uptoSmall }

/-- 'alidadelaw14.MirrorSteps', WHERE WHAT IT READS IS OF BULK AT MOST 1048576: true; the input reads as it did. -/
def mirrorStepsUptoRow : OpenClaim := { program := "ytbchepdaomhgeaa", sum := "a4d52f4b953fad1cea4d088848e50e6ed5db5e8d4b00f9900e23972408bb433d", func := "alidade/alidadelaw14.MirrorSteps", spec := "mirrorSteps", unfollowed := true, recurses := true, apart := false, narrowed := true }
def MirrorStepsUptoSaid : Prop := mirrorStepsUptoRow.holds Try.pinned (OpenSpec.upto mirrorStepsSpec)

/-- 'alidadelaw14.MirrorBounds', WHERE WHAT IT READS IS OF BULK AT MOST 1048576: true; the input reads as it did. -/
def mirrorBoundsUptoRow : OpenClaim := { program := "ytbchepdaomhgeaa", sum := "a4d52f4b953fad1cea4d088848e50e6ed5db5e8d4b00f9900e23972408bb433d", func := "alidade/alidadelaw14.MirrorBounds", spec := "mirrorBounds", unfollowed := true, recurses := true, apart := false, narrowed := true }
def MirrorBoundsUptoSaid : Prop := mirrorBoundsUptoRow.holds Try.pinned (OpenSpec.upto mirrorBoundsSpec)

/-- 'alidadelaw14.MirrorAcks', WHERE WHAT IT READS IS OF BULK AT MOST 1048576: true; the input reads as it did. -/
def mirrorAcksUptoRow : OpenClaim := { program := "ytbchepdaomhgeaa", sum := "a4d52f4b953fad1cea4d088848e50e6ed5db5e8d4b00f9900e23972408bb433d", func := "alidade/alidadelaw14.MirrorAcks", spec := "mirrorAcks", unfollowed := true, recurses := true, apart := false, narrowed := true }
def MirrorAcksUptoSaid : Prop := mirrorAcksUptoRow.holds Try.pinned (OpenSpec.upto mirrorAcksSpec)

/-- 'alidadelaw14.MirrorLeaves', WHERE WHAT IT READS IS OF BULK AT MOST 1048576: true; the input reads as it did. -/
def mirrorLeavesUptoRow : OpenClaim := { program := "ytbchepdaomhgeaa", sum := "a4d52f4b953fad1cea4d088848e50e6ed5db5e8d4b00f9900e23972408bb433d", func := "alidade/alidadelaw14.MirrorLeaves", spec := "mirrorLeaves", unfollowed := true, recurses := true, apart := false, narrowed := true }
def MirrorLeavesUptoSaid : Prop := mirrorLeavesUptoRow.holds Try.pinned (OpenSpec.upto mirrorLeavesSpec)

/-- 'alidadelaw14.MirrorFrees', WHERE WHAT IT READS IS OF BULK AT MOST 1048576: true; the input reads as it did. -/
def mirrorFreesUptoRow : OpenClaim := { program := "ytbchepdaomhgeaa", sum := "a4d52f4b953fad1cea4d088848e50e6ed5db5e8d4b00f9900e23972408bb433d", func := "alidade/alidadelaw14.MirrorFrees", spec := "mirrorFrees", unfollowed := true, recurses := true, apart := false, narrowed := true }
def MirrorFreesUptoSaid : Prop := mirrorFreesUptoRow.holds Try.pinned (OpenSpec.upto mirrorFreesSpec)

/-- 'alidadelaw14.MirrorNumbers', WHERE WHAT IT READS IS OF BULK AT MOST 1048576: true; the input reads as it did. -/
def mirrorNumbersUptoRow : OpenClaim := { program := "ytbchepdaomhgeaa", sum := "a4d52f4b953fad1cea4d088848e50e6ed5db5e8d4b00f9900e23972408bb433d", func := "alidade/alidadelaw14.MirrorNumbers", spec := "mirrorNumbers", unfollowed := true, recurses := true, apart := false, narrowed := true }
def MirrorNumbersUptoSaid : Prop := mirrorNumbersUptoRow.holds Try.pinned (OpenSpec.upto mirrorNumbersSpec)

/-- 'alidadelaw14.MirrorTells', WHERE WHAT IT READS IS OF BULK AT MOST 1048576: true; the input reads as it did. -/
def mirrorTellsUptoRow : OpenClaim := { program := "ytbchepdaomhgeaa", sum := "a4d52f4b953fad1cea4d088848e50e6ed5db5e8d4b00f9900e23972408bb433d", func := "alidade/alidadelaw14.MirrorTells", spec := "mirrorTells", unfollowed := true, recurses := true, apart := false, narrowed := true }
def MirrorTellsUptoSaid : Prop := mirrorTellsUptoRow.holds Try.pinned (OpenSpec.upto mirrorTellsSpec)

end Rows
end Go.Proofs.Ytbchepdaomhgeaa
