/- A function's scope through which the run goes without a jump: as if it weren't there. -/
import Derived.Scope
import Derived.Test.YtdmlbgdefapcjaaWWords
namespace Go.Proofs.YtdmlbgdefapcjaaW.PrintWords
open Go.RowKit
theorem wp_scope_body {P : Program} {f : Func} {R : Ending → World → Prop} {c : Code} {a : Act} {w : World} (h : c.wp P (bodyPost P f R) a w) : (Code.scope c).wp P (bodyPost P f R) a w := by
  refine wp_scope_straight ?_
  have e : Exit.noGoto (bodyPost P f R) = bodyPost P f R := by
    funext e a w
    cases e <;> rfl
  rw [e]
  exact h
end Go.Proofs.YtdmlbgdefapcjaaW.PrintWords
