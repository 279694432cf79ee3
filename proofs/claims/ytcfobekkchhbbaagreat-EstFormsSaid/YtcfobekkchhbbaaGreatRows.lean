/-
  No cell of these rows narrows 'for every input' (looked for: loops, veiled, ifaces, maps, wideKeys, modest, calm, conditions, laid).
  DERIVED. THE GIVEN ROWS OF THIS SEAT. 5 by the template 'for every input the law returns true; each argument reads behind the call as it read before'; 0 by the template 'total and deterministic' (their statements: YtcfobekkchhbbaaGreatTotals.lean).
  GIVEN WITH THE SEED: the statements are not yours to turn. If you find one false, say at which input.
  Laid BY PROGRAM, IN A SANDBOX (cutbox-rows.mjs): the forced cells as the released guide's own fill.sh prints them over the translation 43d7ae5a787d68db… (all of the seat's roots in one cut). By AI agents, Wed Nov 11 2026. No macro, syntax, notation, axiom, sorry.
-/
import Derived.Test.YtcfobekkchhbbaaGreatChecked
import GoSem.Claim
import GoSem.ClaimJoined
import GoSem.ClaimMapViews
import Derived.JoinedTies
import Derived.KernelRfl
namespace Go.Proofs.YtcfobekkchhbbaaGreat
/- THE CELL 'sum', in the pinned program and in every row, IS THE sha256 OF THE DUMP (.gsa) THAT YtcfobekkchhbbaaGreatProg.lean LOADS. Nothing in Lean hashes anything: it is a label: what it is worth is what the hold of that sum in a sandbox is worth. -/
noncomputable def Tryz.pinned : Pinned := { name := "ytcfobekkchhbbaagreat", sum := "43d7ae5a787d68dbe66ef014f0899bd48faad6d5a6cb872294607973c2057273", checked := Tryz.checked }
namespace Rows
def none {H : Type} : Left H := { results := [], args := [] }

/-- 'alidadelaw06.EstForms': WHATEVER THE INPUT: true; the input reads as it did. -/
def estFormsSpec : ChangeSpec := { name := "estForms", fn := fun _ => fun
  | [d1, d2, d3] => { results := [.lit (.bool true)], args := [d1, d2, d3] }
  | _ => none }
def estFormsRow : OpenClaim := { program := "ytcfobekkchhbbaagreat", sum := "43d7ae5a787d68dbe66ef014f0899bd48faad6d5a6cb872294607973c2057273", func := "alidade/alidadelaw06.EstForms", spec := "estForms", unfollowed := true, recurses := true, named := ["math/bits.divideError", "math/bits.overflowError"], apart := false }
def EstFormsSaid : Prop := estFormsRow.holds Tryz.pinned (OpenSpec.ofChange estFormsSpec)

/-- ITS FALSE NEIGHBOUR: 'it returns false'. Refute it at one input. -/
def estFormsWrong : ChangeSpec := { name := "estForms", fn := fun _ => fun
  | [d1, d2, d3] => { results := [.lit (.bool false)], args := [d1, d2, d3] }
  | _ => none }
def EstFormsWrongFalsely : Prop := estFormsRow.holds Tryz.pinned (OpenSpec.ofChange estFormsWrong)

/-- 'alidadelaw06.EstWords': WHATEVER THE INPUT: true; the input reads as it did. -/
def estWordsSpec : ChangeSpec := { name := "estWords", fn := fun _ => fun
  | [d1, d2] => { results := [.lit (.bool true)], args := [d1, d2] }
  | _ => none }
def estWordsRow : OpenClaim := { program := "ytcfobekkchhbbaagreat", sum := "43d7ae5a787d68dbe66ef014f0899bd48faad6d5a6cb872294607973c2057273", func := "alidade/alidadelaw06.EstWords", spec := "estWords", unfollowed := true, recurses := true, named := ["math/bits.divideError", "math/bits.overflowError"], apart := false }
def EstWordsSaid : Prop := estWordsRow.holds Tryz.pinned (OpenSpec.ofChange estWordsSpec)

/-- ITS FALSE NEIGHBOUR: 'it returns false'. Refute it at one input. -/
def estWordsWrong : ChangeSpec := { name := "estWords", fn := fun _ => fun
  | [d1, d2] => { results := [.lit (.bool false)], args := [d1, d2] }
  | _ => none }
def EstWordsWrongFalsely : Prop := estWordsRow.holds Tryz.pinned (OpenSpec.ofChange estWordsWrong)

/-- 'alidadelaw06.EstStays': WHATEVER THE INPUT: true; the input reads as it did. -/
def estStaysSpec : ChangeSpec := { name := "estStays", fn := fun _ => fun
  | [d1, d2, d3] => { results := [.lit (.bool true)], args := [d1, d2, d3] }
  | _ => none }
def estStaysRow : OpenClaim := { program := "ytcfobekkchhbbaagreat", sum := "43d7ae5a787d68dbe66ef014f0899bd48faad6d5a6cb872294607973c2057273", func := "alidade/alidadelaw06.EstStays", spec := "estStays", unfollowed := true, recurses := true, named := ["math/bits.divideError", "math/bits.overflowError"], apart := false }
def EstStaysSaid : Prop := estStaysRow.holds Tryz.pinned (OpenSpec.ofChange estStaysSpec)

/-- ITS FALSE NEIGHBOUR: 'it returns false'. Refute it at one input. -/
def estStaysWrong : ChangeSpec := { name := "estStays", fn := fun _ => fun
  | [d1, d2, d3] => { results := [.lit (.bool false)], args := [d1, d2, d3] }
  | _ => none }
def EstStaysWrongFalsely : Prop := estStaysRow.holds Tryz.pinned (OpenSpec.ofChange estStaysWrong)

/-- 'alidadelaw19.UnitLets': WHATEVER THE INPUT: true; the input reads as it did. -/
def unitLetsSpec : ChangeSpec := { name := "unitLets", fn := fun _ => fun
  | [d1, d2, d3] => { results := [.lit (.bool true)], args := [d1, d2, d3] }
  | _ => none }
def unitLetsRow : OpenClaim := { program := "ytcfobekkchhbbaagreat", sum := "43d7ae5a787d68dbe66ef014f0899bd48faad6d5a6cb872294607973c2057273", func := "alidade/alidadelaw19.UnitLets", spec := "unitLets", unfollowed := true, recurses := true, named := ["math/bits.divideError", "math/bits.overflowError"], apart := false }
def UnitLetsSaid : Prop := unitLetsRow.holds Tryz.pinned (OpenSpec.ofChange unitLetsSpec)

/-- ITS FALSE NEIGHBOUR: 'it returns false'. Refute it at one input. -/
def unitLetsWrong : ChangeSpec := { name := "unitLets", fn := fun _ => fun
  | [d1, d2, d3] => { results := [.lit (.bool false)], args := [d1, d2, d3] }
  | _ => none }
def UnitLetsWrongFalsely : Prop := unitLetsRow.holds Tryz.pinned (OpenSpec.ofChange unitLetsWrong)

/-- 'alidadelaw19.UnitStays': WHATEVER THE INPUT: true; the input reads as it did. -/
def unitStaysSpec : ChangeSpec := { name := "unitStays", fn := fun _ => fun
  | [d] => { results := [.lit (.bool true)], args := [d] }
  | _ => none }
def unitStaysRow : OpenClaim := { program := "ytcfobekkchhbbaagreat", sum := "43d7ae5a787d68dbe66ef014f0899bd48faad6d5a6cb872294607973c2057273", func := "alidade/alidadelaw19.UnitStays", spec := "unitStays", unfollowed := true, recurses := true, named := ["math/bits.divideError", "math/bits.overflowError"], apart := false }
def UnitStaysSaid : Prop := unitStaysRow.holds Tryz.pinned (OpenSpec.ofChange unitStaysSpec)

/-- ITS FALSE NEIGHBOUR: 'it returns false'. Refute it at one input. -/
def unitStaysWrong : ChangeSpec := { name := "unitStays", fn := fun _ => fun
  | [d] => { results := [.lit (.bool false)], args := [d] }
  | _ => none }
def UnitStaysWrongFalsely : Prop := unitStaysRow.holds Tryz.pinned (OpenSpec.ofChange unitStaysWrong)

/- THE SECOND FORM. 'bulk': how many values and letters a reading holds, each counted each time it is reached (what is shared counts as often as it is met; a slice's spare places count too). A statement '..UptoSaid' is the law's where the arguments, and the package variables that the reading takes, are together of bulk at most 1048576: NARROWER than '..Said'. Prove '..Said' where nothing that the law and all that it calls make is longer than what came in: it says more and counts as full. Else prove '..UptoSaid'. A law counts once. -/
mutual
def uptoBulk {H : Type} : DataW H → Nat
  | .lit (.string bytes) => bytes.length + 1
  | .lit _ => 1
  | .nil => 1
  | .ptr d => uptoBulk d + 1
  | .slice elems spare => uptoBulkAll elems + uptoBulkAll spare + 1
  | .agg parts => uptoBulkAll parts + 1
  | .iface _ d => uptoBulk d + 1
  | .map entries => uptoBulkEntries entries + 1
  | .held _ => 1
def uptoBulkAll {H : Type} : List (DataW H) → Nat
  | [] => 0
  | d :: r => uptoBulk d + uptoBulkAll r
def uptoBulkEntries {H : Type} : List (Lit × DataW H) → Nat
  | [] => 0
  | x :: r => uptoBulkEntry x + uptoBulkEntries r
def uptoBulkEntry {H : Type} : Lit × DataW H → Nat
  | (.string bytes, d) => bytes.length + uptoBulk d + 1
  | (_, d) => uptoBulk d + 1
 end
def uptoSmall : (H : Type) → List (DataW H) → Bool := fun _ ds => decide (uptoBulkAll ds ≤ 1048576)
def OpenSpec.upto (s : _root_.Go.ChangeSpec) : _root_.Go.OpenSpec := { _root_.Go.OpenSpec.ofChange s with cond := some uptoSmall }

/-- 'alidadelaw06.EstForms', WHERE WHAT IT READS IS OF BULK AT MOST 1048576: true; the input reads as it did. -/
def estFormsUptoRow : OpenClaim := { program := "ytcfobekkchhbbaagreat", sum := "43d7ae5a787d68dbe66ef014f0899bd48faad6d5a6cb872294607973c2057273", func := "alidade/alidadelaw06.EstForms", spec := "estForms", unfollowed := true, recurses := true, named := ["math/bits.divideError", "math/bits.overflowError"], apart := false, narrowed := true }
def EstFormsUptoSaid : Prop := estFormsUptoRow.holds Tryz.pinned (OpenSpec.upto estFormsSpec)

/-- 'alidadelaw06.EstWords', WHERE WHAT IT READS IS OF BULK AT MOST 1048576: true; the input reads as it did. -/
def estWordsUptoRow : OpenClaim := { program := "ytcfobekkchhbbaagreat", sum := "43d7ae5a787d68dbe66ef014f0899bd48faad6d5a6cb872294607973c2057273", func := "alidade/alidadelaw06.EstWords", spec := "estWords", unfollowed := true, recurses := true, named := ["math/bits.divideError", "math/bits.overflowError"], apart := false, narrowed := true }
def EstWordsUptoSaid : Prop := estWordsUptoRow.holds Tryz.pinned (OpenSpec.upto estWordsSpec)

/-- 'alidadelaw06.EstStays', WHERE WHAT IT READS IS OF BULK AT MOST 1048576: true; the input reads as it did. -/
def estStaysUptoRow : OpenClaim := { program := "ytcfobekkchhbbaagreat", sum := "43d7ae5a787d68dbe66ef014f0899bd48faad6d5a6cb872294607973c2057273", func := "alidade/alidadelaw06.EstStays", spec := "estStays", unfollowed := true, recurses := true, named := ["math/bits.divideError", "math/bits.overflowError"], apart := false, narrowed := true }
def EstStaysUptoSaid : Prop := estStaysUptoRow.holds Tryz.pinned (OpenSpec.upto estStaysSpec)

/-- 'alidadelaw19.UnitLets', WHERE WHAT IT READS IS OF BULK AT MOST 1048576: true; the input reads as it did. -/
def unitLetsUptoRow : OpenClaim := { program := "ytcfobekkchhbbaagreat", sum := "43d7ae5a787d68dbe66ef014f0899bd48faad6d5a6cb872294607973c2057273", func := "alidade/alidadelaw19.UnitLets", spec := "unitLets", unfollowed := true, recurses := true, named := ["math/bits.divideError", "math/bits.overflowError"], apart := false, narrowed := true }
def UnitLetsUptoSaid : Prop := unitLetsUptoRow.holds Tryz.pinned (OpenSpec.upto unitLetsSpec)

/-- 'alidadelaw19.UnitStays', WHERE WHAT IT READS IS OF BULK AT MOST 1048576: true; the input reads as it did. -/
def unitStaysUptoRow : OpenClaim := { program := "ytcfobekkchhbbaagreat", sum := "43d7ae5a787d68dbe66ef014f0899bd48faad6d5a6cb872294607973c2057273", func := "alidade/alidadelaw19.UnitStays", spec := "unitStays", unfollowed := true, recurses := true, named := ["math/bits.divideError", "math/bits.overflowError"], apart := false, narrowed := true }
def UnitStaysUptoSaid : Prop := unitStaysUptoRow.holds Tryz.pinned (OpenSpec.upto unitStaysSpec)

end Rows
end Go.Proofs.YtcfobekkchhbbaaGreat
