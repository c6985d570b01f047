/- Results; operations that ask a bound; whole numbers that stay as they are. Plain laws over any program. -/
import Derived.Test.YtgmggjnoegelgaaGc
namespace Go.Proofs.Ytgmggjnoegelgaa
open Go.RowKit

section
variable {P : Program} {n : Nat} {M : FM} {w w' : World}
/-! ### a function's results -/
def RV (P : Program) (M : FM) (w : World) : ResultVar → Value → Prop
  | .tmp t, v => lk M t = some v
  | .cell a ty, v => ∃ ad, lk M a = some (.pointer (some ad)) ∧ (Instr.loadAt ty (.pointer (some ad))).run P w = .ok v w
theorem RV.tmp {t : Nat} {v : Value} (h : lk M t = some v) : RV P M w (.tmp t) v := h
theorem RV.cell {a ty : Nat} {ad : Addr} {v : Value} (h1 : lk M a = some (.pointer (some ad))) (h2 : (Instr.loadAt ty (.pointer (some ad))).run P w = .ok v w) : RV P M w (.cell a ty) v := ⟨ad, h1, h2⟩
def resOf (F : Array Value) : ResultVar → Sem Value
  | .tmp t => pure (F.getD t undef)
  | .cell a t => do loadVar t (← asAddr (F.getD a undef))
theorem RV.run {r : ResultVar} {v : Value} {F : Array Value} (hM : Fits F M) (h : RV P M w r v) : (resOf F r).run P w = .ok v w := by
  cases r with
  | tmp t =>
    have := hM.lk h
    simp [resOf, this]
  | cell a ty =>
    obtain ⟨ad, h1, h2⟩ := h
    have := hM.lk h1
    simp only [Instr.loadAt, Instr.sureAddr, Sem.run_bind, Sem.run_pure, Result.andThen_ok] at h2
    simp [resOf, this, asAddr, h2]
theorem results_resOf (fn : Func) (F : Array Value) : results fn F = (do
    let vs ← fn.results.mapM (resOf F)
    pure (if h : vs.size = 1 then vs[0] else .tuple vs)) := by
  unfold results
  congr 1
theorem run_mapM1 {α : Type} {f : α → Sem Value} {r : α} {v : Value} (h1 : (f r).run P w = .ok v w) : (#[r].mapM f).run P w = .ok #[v] w := by simp [h1]
theorem run_mapM2 {α : Type} {f : α → Sem Value} {r s : α} {v x : Value} (h1 : (f r).run P w = .ok v w) (h2 : (f s).run P w = .ok x w) : (#[r, s].mapM f).run P w = .ok #[v, x] w := by simp [h1, h2]
theorem run_mapM3 {α : Type} {f : α → Sem Value} {r s t : α} {v x y : Value} (h1 : (f r).run P w = .ok v w) (h2 : (f s).run P w = .ok x w) (h3 : (f t).run P w = .ok y w) : (#[r, s, t].mapM f).run P w = .ok #[v, x, y] w := by simp [h1, h2, h3]
theorem bodyPost_1 {fn : Func} {R : Ending → World → Prop} {r : ResultVar} {v : Value} (hr : fn.results = #[r]) (hv : RV P M w r v) (h : R (.returned v) w) :
    ∀ F : Array Value, F.size = n → Fits F M → bodyPost P fn R .ret ⟨F, []⟩ w := fun F _ hM =>
  ⟨rfl, v, by rw [results_resOf, hr]; simp only [Sem.run_bind, run_mapM1 (hv.run hM), Result.andThen_ok]; rfl, h⟩
theorem bodyPost_2 {fn : Func} {R : Ending → World → Prop} {r s : ResultVar} {v x : Value} (hr : fn.results = #[r, s]) (hv : RV P M w r v) (hx : RV P M w s x) (h : R (.returned (.tuple #[v, x])) w) :
    ∀ F : Array Value, F.size = n → Fits F M → bodyPost P fn R .ret ⟨F, []⟩ w := fun F _ hM =>
  ⟨rfl, .tuple #[v, x], by rw [results_resOf, hr]; simp only [Sem.run_bind, run_mapM2 (hv.run hM) (hx.run hM), Result.andThen_ok]; rfl, h⟩
theorem bodyPost_3 {fn : Func} {R : Ending → World → Prop} {r s t : ResultVar} {v x y : Value} (hr : fn.results = #[r, s, t]) (hv : RV P M w r v) (hx : RV P M w s x) (hy : RV P M w t y) (h : R (.returned (.tuple #[v, x, y])) w) :
    ∀ F : Array Value, F.size = n → Fits F M → bodyPost P fn R .ret ⟨F, []⟩ w := fun F _ hM =>
  ⟨rfl, .tuple #[v, x, y], by rw [results_resOf, hr]; simp only [Sem.run_bind, run_mapM3 (hv.run hM) (hx.run hM) (hy.run hM), Result.andThen_ok]; rfl, h⟩
theorem bodyPost_0 {fn : Func} {R : Ending → World → Prop} (hr : fn.results = #[]) (h : R (.returned (.tuple #[])) w) :
    ∀ F : Array Value, F.size = n → Fits F M → bodyPost P fn R .ret ⟨F, []⟩ w := bodyPost_tmps0 hr h

/-! ### more code behind -/
theorem GL.k {ops : Array Oper} {Q Q' : Exit → Act → World → Prop} {K : Act → World → Prop} {b : Code} {i : Nat} (hi : Nat.ble ops.size i = true) (hK : ∀ a w, b.wp P Q' a w → K a w) (hq : ∀ a w, K a w → Q .normal a w)
    (h : G P b Q' n M w) : GL P ops Q i n M w := GL.done hi fun F hF hM => hq _ _ (hK _ _ (h F hF hM))
theorem G.skipK {Q Q' : Exit → Act → World → Prop} {K : Act → World → Prop} {b : Code} (hK : ∀ a w, b.wp P Q' a w → K a w) (hq : ∀ a w, K a w → Q .normal a w)
    (h : G P b Q' n M w) : G P .skip Q n M w := fun F hF hM => wp_skip (hq _ _ (hK _ _ (h F hF hM)))
theorem G.exitK {Q Q' : Exit → Act → World → Prop} {K : Act → World → Prop} {b : Code} {id : Nat} (hK : ∀ a w, b.wp P Q' a w → K a w) (hq : ∀ a w, K a w → Q (.exit id) a w)
    (h : G P b Q' n M w) : G P (.exit id) Q n M w := fun F hF hM => wp_exit (hq _ _ (hK _ _ (h F hF hM)))
theorem G.seqK {Q : Exit → Act → World → Prop} {a b : Code} (h : ∀ K : Act → World → Prop, (∀ a w, b.wp P Q a w → K a w) → G P a (Exit.then K Q) n M w) : G P (.seq a b) Q n M w := fun F hF hM =>
  wp_seq_k fun K hK => h K hK F hF hM
theorem G.skipDone {Q : Exit → Act → World → Prop} (h : ∀ F : Array Value, F.size = n → Fits F M → Q .normal ⟨F, []⟩ w) : G P .skip Q n M w := fun F hF hM => wp_skip (h F hF hM)
/-- What stands behind a draw, as a class of worlds. -/
theorem GQ.k {ops : Array Oper} {C : World → Prop} {Q Q' : Exit → Act → World → Prop} {K : Act → World → Prop} {b : Code} {i : Nat} (hi : Nat.ble ops.size i = true) (hK : ∀ a w, b.wp P Q' a w → K a w) (hq : ∀ a w, K a w → Q .normal a w)
    (h : ∀ w, C w → G P b Q' n M w) : GQ P ops C (fun a' => ∀ w', C w' → Q .normal a' w') i n M := GQ.done hi fun F hF hM w hw => hq _ _ (hK _ _ (h w hw F hF hM))

/-! ### operations that ask a bound -/
/-- An array type's length and its elements' number of cells; a slice type's elements'. -/
def arrOf (P : Program) (t : TypeId) : Option (Nat × Nat) :=
  match P.underlying t with
  | some (.array len e) => (P.info? e).map fun i => (len, i.size)
  | _ => none
def slcOf (P : Program) (t : TypeId) : Option Nat :=
  match P.underlying t with
  | some (.slice e) => (P.info? e).map (·.size)
  | _ => none
theorem arrOf_spec {t len sz : Nat} (h : arrOf P t = some (len, sz)) : ∃ e, P.underlying t = some (.array len e) ∧ ∀ w, (sizeOf e).run P w = .ok sz w := by
  unfold arrOf at h
  split at h
  · rename_i l e hu
    cases hi : P.info? e with
    | none => simp [hi] at h
    | some i =>
      simp [hi] at h
      exact ⟨e, by rw [hu, h.1], fun w => by simp [sizeOf, typeInfo, hi, h.2]⟩
  · cases h
theorem slcOf_spec {t sz : Nat} (h : slcOf P t = some sz) : ∃ e, P.underlying t = some (.slice e) ∧ ∀ w, (sizeOf e).run P w = .ok sz w := by
  unfold slcOf at h
  split at h
  · rename_i e hu
    cases hi : P.info? e with
    | none => simp [hi] at h
    | some i =>
      simp [hi] at h
      exact ⟨e, hu, fun w => by simp [sizeOf, typeInfo, hi, h]⟩
  · cases h
theorem addr_add (b o j : Nat) : (⟨b, o, none⟩ : Addr).add j = ⟨b, o + j, none⟩ := by unfold Addr.add; split <;> simp_all
theorem run_idxArr {t len sz b o : Nat} {k : IntKind} {i : Int} {j : Nat} (ht : arrOf P t = some (len, sz)) (hi : i = (j : Int)) (hj : j < len) :
    (Instr.indexAt t (.pointer (some ⟨b, o, none⟩)) (.int k i)).run P w = .ok (.pointer (some ⟨b, o + j * sz, none⟩)) w := by
  obtain ⟨e, hu, hs⟩ := arrOf_spec ht
  subst hi
  have h1 : (0 : Int) ≤ (j : Int) ∧ (j : Int) < (len : Int) := ⟨by omega, by omega⟩
  simp only [Instr.indexAt, asIntOf, Sem.run_bind, Sem.run_pure, Result.andThen_ok, run_underlying hu, Instr.sureAddr]
  rw [if_pos h1]
  simp [hs, addr_add]
theorem run_idxSl {t sz : Nat} {a : Addr} {len cap : Nat} {k : IntKind} {i : Int} {j : Nat} (ht : slcOf P t = some sz) (hi : i = (j : Int)) (hj : j < len) :
    (Instr.indexAt t (.slice (some a) len cap) (.int k i)).run P w = .ok (.pointer (some (a.add (j * sz)))) w := by
  obtain ⟨e, hu, hs⟩ := slcOf_spec ht
  subst hi
  have h1 : (0 : Int) ≤ (j : Int) ∧ (j : Int) < (len : Int) := ⟨by omega, by omega⟩
  simp only [Instr.indexAt, asIntOf, Sem.run_bind, Sem.run_pure, Result.andThen_ok, run_underlying hu]
  rw [if_pos h1]
  simp [hs]
theorem run_shl {op : BinOp} {k k' : IntKind} {x y : Int} {t : TypeId} (ho : op = .shl) (hy : 0 ≤ y) (w : World) : (binOp op t (.int k x) (.int k' y)).run P w = .ok (.int k (k.wrap (x * 2 ^ (min y.toNat k.bits)))) w := by
  subst ho
  have : ¬ y < 0 := by omega
  simp [binOp, Op.shift, this]
theorem run_shr {op : BinOp} {k k' : IntKind} {x y : Int} {t : TypeId} (ho : op = .shr) (hy : 0 ≤ y) (w : World) : (binOp op t (.int k x) (.int k' y)).run P w = .ok (.int k (x.fdiv (2 ^ (min y.toNat k.bits)))) w := by
  subst ho
  have : ¬ y < 0 := by omega
  simp [binOp, Op.shift, this]
theorem run_quo {k : IntKind} {x y : Int} {t : TypeId} (hy : y ≠ 0) (w : World) : (binOp .quo t (.int k x) (.int k y)).run P w = .ok (.int k (k.wrap (x.tdiv y))) w := by
  simp [binOp, Op.intDiv, hy]
theorem run_rem {k : IntKind} {x y : Int} {t : TypeId} (hy : y ≠ 0) (w : World) : (binOp .rem t (.int k x) (.int k y)).run P w = .ok (.int k (x.tmod y)) w := by
  simp [binOp, Op.intDiv, hy]
/-- A binary operation of whole numbers: no guard on what is compared. -/
theorem run_eqGuard_int {op : BinOp} {t : TypeId} {x y : Operand} {k k' : IntKind} {a b : Int} (w : World) {r : Result Value} (h : (binOp op t (.int k a) (.int k' b)).run P w = r)
    (hg : (eqGuard op t x y (.int k a) (.int k' b)).run P w = .ok () w) : (do eqGuard op t x y (.int k a) (.int k' b); binOp op t (.int k a) (.int k' b) : Sem Value).run P w = r := by
  simp [hg, h]
end

/-! ### whole numbers within their kind -/
theorem in_i64 {x : Int} (h : -9223372036854775808 ≤ x ∧ x ≤ 9223372036854775807) : IntKind.i64.wrap x = x := by rw [IntKind.wrap_i64]; omega
theorem in_u64 {x : Int} (h : 0 ≤ x ∧ x ≤ 18446744073709551615) : IntKind.u64.wrap x = x := by rw [IntKind.wrap_u64]; omega
theorem in_u32 {x : Int} (h : 0 ≤ x ∧ x ≤ 4294967295) : IntKind.u32.wrap x = x := by rw [IntKind.wrap_u32]; omega
theorem in_u8 {x : Int} (h : 0 ≤ x ∧ x ≤ 255) : IntKind.u8.wrap x = x := by rw [IntKind.wrap_u8]; omega
end Go.Proofs.Ytgmggjnoegelgaa
