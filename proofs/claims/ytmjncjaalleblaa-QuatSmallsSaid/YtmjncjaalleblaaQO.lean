import Derived.Test.YtmjncjaalleblaaRows
import Derived.WalkKit
import Derived.ProofKit
import Derived.OpenShut
import Derived.ShutString
import Derived.ChangeOld
import Derived.ChangeSame
import Derived.Below
import Derived.SizedLaws
import Derived.Laws.IdiomArrays
/- Arrays of four and of three numbers as arguments: opened, and shut. -/
namespace Go.Proofs.Ytmjncjaalleblaa.PQ
open Go.ChangeShapes Go.WideShapes Go.ChangeAt Go.RowKit
set_option linter.unusedVariables false
set_option linter.unusedSimpArgs false
theorem list4 {α : Type} (l : List α) (h : (⟨l⟩ : Array α).size = 4) : ∃ a b c d, l = [a, b, c, d] := by
  match l, h with
  | [a, b, c, d], _ => exact ⟨a, b, c, d, rfl⟩
theorem list3 {α : Type} (l : List α) (h : (⟨l⟩ : Array α).size = 3) : ∃ a b c, l = [a, b, c] := by
  match l, h with
  | [a, b, c], _ => exact ⟨a, b, c, rfl⟩
variable {H : Type} {enc : TypeId × Value → H}
theorem open4 {t e : TypeId} {k : IntKind} {W : World} {base b0 : Nat} {r : Reach} {sp : Nat → Bool} {v : Value} {d : DataW H} {p : List MemPlace} (ht : Try.prog.underlying t = some (.array 4 e)) (he : Try.prog.underlying e = some (.int k)) (hce : Try.prog.cellsOf e = 1) (hct : Try.prog.cellsOf t = 4)
    (hv : Value.okWide Try.prog W r b0 t v) (h : DataW.Trod enc Try.prog W base sp true t v d p) :
    ∃ a b c x, v = .agg #[.int k a, .int k b, .int k c, .int k x] ∧ p = [] ∧ ((Lit.int k a).wf = true ∧ (Lit.int k b).wf = true ∧ (Lit.int k c).wf = true ∧ (Lit.int k x).wf = true) ∧
      ∀ (W' : World) (base' : Nat) (sp' : Nat → Bool), DataW.Trod enc Try.prog W' base' sp' true t (.agg #[.int k a, .int k b, .int k c, .int k x]) d [] := by
  obtain ⟨cs, rfl, hsz, _⟩ : ∃ cs, v = .agg cs ∧ cs.size = Try.prog.cellsOf t ∧ Row.okWide Try.prog W r b0 t cs := by
    simpa [Value.okWide, ht] using hv
  rw [hct] at hsz
  obtain ⟨l⟩ := cs
  obtain ⟨c0, c1, c2, c3, rfl⟩ := list4 l hsz
  obtain ⟨fuel, hf⟩ := h
  obtain ⟨y0, y1, y2, y3, m, hx, hy0, hy1, hy2, hy3⟩ := trod_array4 ht hce hf
  obtain ⟨x0, e0, rfl, w0⟩ := DataW.trod_int he hy0
  obtain ⟨x1, e1, rfl, w1⟩ := DataW.trod_int he hy1
  obtain ⟨x2, e2, rfl, w2⟩ := DataW.trod_int he hy2
  obtain ⟨x3, e3, rfl, w3⟩ := DataW.trod_int he hy3
  simp at e0 e1 e2 e3
  subst e0 e1 e2 e3
  simp only [Prod.mk.injEq] at hx
  obtain ⟨rfl, rfl⟩ := hx
  exact ⟨x0, x1, x2, x3, rfl, rfl, ⟨w0, w1, w2, w3⟩, fun W' base' sp' => ⟨2, by simp [DataW.trod, Value.cells, ht, he, hct, hce, w0, w1, w2, w3, show List.range 4 = [0, 1, 2, 3] from rfl]⟩⟩
theorem open3 {t e : TypeId} {k : IntKind} {W : World} {base b0 : Nat} {r : Reach} {sp : Nat → Bool} {v : Value} {d : DataW H} {p : List MemPlace} (ht : Try.prog.underlying t = some (.array 3 e)) (he : Try.prog.underlying e = some (.int k)) (hce : Try.prog.cellsOf e = 1) (hct : Try.prog.cellsOf t = 3)
    (hv : Value.okWide Try.prog W r b0 t v) (h : DataW.Trod enc Try.prog W base sp true t v d p) :
    ∃ a b c, v = .agg #[.int k a, .int k b, .int k c] ∧ p = [] ∧ ((Lit.int k a).wf = true ∧ (Lit.int k b).wf = true ∧ (Lit.int k c).wf = true) ∧
      ∀ (W' : World) (base' : Nat) (sp' : Nat → Bool), DataW.Trod enc Try.prog W' base' sp' true t (.agg #[.int k a, .int k b, .int k c]) d [] := by
  obtain ⟨cs, rfl, hsz, _⟩ : ∃ cs, v = .agg cs ∧ cs.size = Try.prog.cellsOf t ∧ Row.okWide Try.prog W r b0 t cs := by
    simpa [Value.okWide, ht] using hv
  rw [hct] at hsz
  obtain ⟨l⟩ := cs
  obtain ⟨c0, c1, c2, rfl⟩ := list3 l hsz
  obtain ⟨fuel, hf⟩ := h
  obtain ⟨y0, y1, y2, m, hx, hy0, hy1, hy2⟩ := trod_array3 ht hce hf
  obtain ⟨x0, e0, rfl, w0⟩ := DataW.trod_int he hy0
  obtain ⟨x1, e1, rfl, w1⟩ := DataW.trod_int he hy1
  obtain ⟨x2, e2, rfl, w2⟩ := DataW.trod_int he hy2
  simp at e0 e1 e2
  subst e0 e1 e2
  simp only [Prod.mk.injEq] at hx
  obtain ⟨rfl, rfl⟩ := hx
  exact ⟨x0, x1, x2, rfl, rfl, ⟨w0, w1, w2⟩, fun W' base' sp' => ⟨2, by simp [DataW.trod, Value.cells, ht, he, hct, hce, w0, w1, w2, show List.range 3 = [0, 1, 2] from rfl]⟩⟩
end Go.Proofs.Ytmjncjaalleblaa.PQ
