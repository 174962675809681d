/- Words of our own for walks: ways that meet again. Plain theorems about the model; no condition. -/
import Derived.Test.YtmnekmclpepclaaK17
set_option linter.unusedVariables false
set_option linter.unusedSimpArgs false
namespace Go.Proofs.Ytmnekmclpepclaa.K
open Go Go.RowKit
section
variable {P : Program} {Q : Exit → Act → World → Prop} {a : Act} {w : World}
/-- All ways through x come to J; from J on y is walked once. -/
theorem wp_seq_cut {x y : Code} (J : Act → World → Prop) (h1 : x.wp P (Exit.then J Q) a w) (h2 : ∀ a w, J a w → y.wp P Q a w) : (Code.seq x y).wp P Q a w :=
  wp_seq (wp_mono h1 fun e a w q => by
    cases e with
    | normal => exact h2 _ _ q
    | exit id => exact q
    | goto l => exact q
    | ret => exact q
    | panic c => exact q
    | outgrown => exact q)
end
end Go.Proofs.Ytmnekmclpepclaa.K
