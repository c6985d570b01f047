/- Ways that meet: what stands behind a branching is walked once, for all states of a class. Plain laws over any program. -/
import Derived.Test.YtgmggjnoegelgaaGk
namespace Go.Proofs.Ytgmggjnoegelgaa
open Go.RowKit

section
variable {P : Program} {n : Nat} {M : FM} {w : World}
theorem G.seqJ {a b : Code} {Q : Exit → Act → World → Prop} {X : Type} (Mx : X → FM) (J : X → World → Prop)
    (h : (∀ x w', J x w' → G P b Q n (Mx x) w') → ∀ K : Act → World → Prop, (∀ a w, b.wp P Q a w → K a w) → G P a (Exit.then K Q) n M w)
    (hb : ∀ x w', J x w' → G P b Q n (Mx x) w') : G P (.seq a b) Q n M w := G.seqK fun K hK => h hb K hK
end
end Go.Proofs.Ytgmggjnoegelgaa
