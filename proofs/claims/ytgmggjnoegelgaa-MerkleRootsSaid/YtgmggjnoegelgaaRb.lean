/- A round's regions that draw their order. Plain laws over any program. -/
import Derived.Test.YtgmggjnoegelgaaRa
import Derived.Test.YtgmggjnoegelgaaGj
import Derived.OrdersIn
namespace Go.Proofs.Ytgmggjnoegelgaa
open Go.RowKit
section
variable {P : Program} {ops : Array Oper} {r : Option Nat} {Q : Exit → Act → World → Prop} {n : Nat} {M : FM} {w : World} {S : World → Prop} {done : List Nat}
theorem rowsFR {row : String} {args : Array Value} {R : Value → World → Prop} {m : Nat} (h : Rows P row args w R) : RowsIn (FR r) m P row args w R := fun c cs _ =>
  let ⟨v, w', q, s⟩ := h c cs
  ⟨v, w', q, stepsIn_wide.2 s⟩
theorem uponIn_FR {o : Oper} {a : Act} {next : Act → World → Prop} {x : Result Next} (h : o.upon P a next Q x) : o.uponIn (FR r) 0 P a next Q x := by
  cases x with
  | ok n w' =>
    cases n with
    | enter f args => exact ⟨fun h => (by cases h), callsFR h⟩
    | row q args => exact ⟨fun h => (by cases h), rowsFR h⟩
    | _ => first | exact h | exact h.elim
  | halt x w' => cases x <;> first | exact h | exact h.elim
theorem wpOpIn_FR (hnd : noDef ops = true) (hlo : ¬ LetsOut Q) {i : Nat} {K K' : Act → World → Prop} (hK : ∀ a w, K a w → K' a w) {a : Act} {w : World} (h : wpOp P ops Q i K a w) : wpOpIn (FR r) 0 P ops Q i K' a w := by
  unfold wpOp at h
  unfold wpOpIn
  cases ho : ops[i]? with
  | none =>
    simp only [ho] at h
    exact hK _ _ h
  | some o =>
    simp only [ho] at h ⊢
    split at h
    · rename_i hw
      rw [if_pos hw]
      rcases h with h | h
      · refine ⟨fun _ _ => trivial, ?_⟩
        rw [Oper.semAt_eq _ _ _ (noDef_at hnd ho)]
        exact uponIn_FR (Oper.wp_mono hK h)
      · exact absurd h.2 hlo
    · rename_i hw
      rw [if_neg hw]
      exact ⟨fun _ _ => trivial, hK _ _ h⟩
theorem wpAnyIn_FR (hnd : noDef ops = true) (hlo : ¬ LetsOut Q) {md : Region.Mode} : ∀ (fuel : Nat) (listed : Array Bool) (a : Act) (w : World), wpAny P md ops Q fuel listed a w → wpAnyIn (FR r) 0 P md ops Q fuel listed a w
  | 0, _, _, _, h => h
  | fuel + 1, _, _, _, h => ⟨h.1, fun i hi => wpOpIn_FR hnd hlo (fun a w h' => wpAnyIn_FR hnd hlo fuel _ a w h') (h.2 i hi)⟩
theorem RG.heldP {id : Nat} (S : World → Prop) (hm : P.follows .mixedOrders = true) (hB : Region.noSelect ops = true) (hnd : noDef ops = true) (hlo : ¬ LetsOut Q) (hQ : ∀ c (a : Act) d v w, Q (.panic c) (a.put d v) w → Q (.panic c) a w)
    (h : GP P ops Q S [] n M { w with drawn := w.drawn + 1 }) : RG P (.region id ops true) r [] Q n M w := fun F hF hM =>
  wpIn_region_any hm (wpAnyIn_FR hnd hlo _ _ _ _ (wpAny_of_held _ _ _ _ (by simpa [lsD] using h F hF hM hB hQ 0)))
theorem GP.kR {Q' : Exit → Act → World → Prop} {K : Act → World → Prop} {b : Code} (hi : Region.ready .any ops (lsD ops.size done) = []) (hK : ∀ a w, b.wpIn (FR r) 0 P Q' a w → K a w) (hq : ∀ a w, K a w → Q .normal a w)
    (h : RG P b r [] Q' n M w) : GP P ops Q S done n M w := GP.fin hi fun F hF hM => hq _ _ (hK _ _ (h F hF hM))
end
end Go.Proofs.Ytgmggjnoegelgaa
