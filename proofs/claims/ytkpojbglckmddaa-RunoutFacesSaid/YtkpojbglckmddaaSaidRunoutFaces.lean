/- The pure statement of the law RunoutFaces: what is to be proved over numbers and lists alone. -/
import Derived.Test.YtkpojbglckmddaaX22
namespace Go.Proofs.Ytkpojbglckmddaa.Pure
open Go.RowKit
set_option linter.unusedVariables false
namespace RunoutFacesIn
def wf89 (x : X.S89) : Prop := (Lit.int .i64 x.f0).wf = true ∧ (Lit.int .i64 x.f1).wf = true ∧ (Lit.int .i64 x.f2).wf = true
end RunoutFacesIn
open RunoutFacesIn
def SaidRunoutFaces : Prop := ∀ (l0 : List (X.S89)) (a1 : Int) (a2 : Int), (∀ x ∈ l0, wf89 x) → l0.length * 24 ≤ 140737488351232 → (Lit.int .i64 a1).wf = true → (Lit.int .i64 a2).wf = true → ∃ k, X.metrolablaw38_RunoutFaces.f k l0 a1 a2 = some true
end Go.Proofs.Ytkpojbglckmddaa.Pure
