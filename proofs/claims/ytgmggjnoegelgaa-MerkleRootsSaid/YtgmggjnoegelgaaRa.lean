/- Rounds: a range over a function, its body, its iterator; what stands behind it. Plain laws over any program. -/
import Derived.Test.YtgmggjnoegelgaaGk
import Derived.RangeFuncNested
import Derived.Shelf.Abstract
import Derived.LoopNIn
namespace Go.Proofs.Ytgmggjnoegelgaa
open Go.RowKit

/-- No fence at all; r: in a round of that loop. -/
def FR (r : Option Nat) : Fence := { Fence.wide with round := r }
def noDef (ops : Array Oper) : Bool := ops.toList.all fun o => !isDefer o.op
/-- A region's operations from number i on, under a frame of which M is known, its deferred calls ds. -/
def RL (P : Program) (ops : Array Oper) (r : Option Nat) (ds : List Deferred) (Q : Exit → Act → World → Prop) (i n : Nat) (M : FM) (w : World) : Prop :=
  noDef ops = true → ∀ F : Array Value, F.size = n → Fits F M → wpListIn (FR r) 0 P ops Q (ops.toList.drop i) ⟨F, ds⟩ w
def RG (P : Program) (c : Code) (r : Option Nat) (ds : List Deferred) (Q : Exit → Act → World → Prop) (n : Nat) (M : FM) (w : World) : Prop :=
  ∀ F : Array Value, F.size = n → Fits F M → c.wpIn (FR r) 0 P Q ⟨F, ds⟩ w
theorem put_ds {F : Array Value} {ds : List Deferred} {d : Option Nat} {v : Value} : (⟨F, ds⟩ : Act).put d v = ⟨((⟨F, []⟩ : Act).put d v).tmps, ds⟩ := by cases d <;> rfl
theorem callsFR {P : Program} {f : FuncId} {args : Array Value} {w : World} {R : Ending → World → Prop} {r : Option Nat} {n : Nat} (h : Calls P f args w R) : CallsIn (FR r) n P f args w R := (callsIn_wide (n := n)).2 h

section
variable {P : Program} {ops : Array Oper} {r : Option Nat} {ds : List Deferred} {Q : Exit → Act → World → Prop} {i n : Nat} {M M' : FM} {w w' : World}
theorem noDef_at {o : Oper} (hd : noDef ops = true) (ho : ops[i]? = some o) : ∀ c, o.op ≠ .defer c := by
  intro c hc
  have h1 : o ∈ ops.toList := List.mem_of_getElem? (i := i) (by simpa using ho)
  have h2 := List.all_eq_true.1 hd o h1
  rw [hc] at h2
  simp [isDefer] at h2
theorem RL.step {o : Oper} {v : Value} (ho : ops[i]? = some o) (hg : gdM ops M o = some true)
    (hr : ∀ F : Array Value, F.size = n → Fits F M → (execOp (⟨F, []⟩ : Act).eval o).run P w = .ok (.value v) w')
    (hp : putM n M o.dst v = some M') (h : RL P ops r ds Q (i + 1) n M' w') : RL P ops r ds Q i n M w := by
  intro hnd F hF hM
  rw [drop_at ho]
  refine wpListIn_step fun K hK => ?_
  show if Region.wanted o (yielded ops F) then _ else _
  rw [gdM_fits hM hg, if_pos rfl]
  refine ⟨fun _ _ => trivial, ?_⟩
  rw [Oper.semAt_eq _ _ _ (noDef_at hnd ho)]
  have hr' : (execOp (⟨F, ds⟩ : Act).eval o).run P w = .ok (.value v) w' := hr F hF hM
  rw [hr']
  show K _ _
  have hp' := hM.put (d := o.dst) (v := v) (M' := M') (by rw [hF]; exact hp)
  rw [put_ds]
  exact hK _ _ (h hnd _ (by rw [hp'.2.1, hF]) hp'.1)
theorem RL.skip_ {o : Oper} (ho : ops[i]? = some o) (hg : gdM ops M o = some false) (hp : putM n M o.dst undef = some M') (h : RL P ops r ds Q (i + 1) n M' w) : RL P ops r ds Q i n M w := by
  intro hnd F hF hM
  rw [drop_at ho]
  refine wpListIn_step fun K hK => ?_
  show if Region.wanted o (yielded ops F) then _ else _
  rw [gdM_fits hM hg]
  simp only [Bool.false_eq_true, if_false]
  refine ⟨fun _ _ => trivial, ?_⟩
  have hp' := hM.put (d := o.dst) (v := undef) (M' := M') (by rw [hF]; exact hp)
  rw [put_ds]
  exact hK _ _ (h hnd _ (by rw [hp'.2.1, hF]) hp'.1)
theorem RL.batch_ : ∀ {k i : Nat} {M M' : FM}, batch P ops n k i M = some M' → RL P ops r ds Q (i + k) n M' w → RL P ops r ds Q i n M w
  | 0, i, M, M', hb, h => by
    simp [batch] at hb
    subst hb
    exact h
  | k + 1, i, M, M', hb, h => by
    have h' : RL P ops r ds Q (i + 1 + k) n M' w := by rwa [show i + 1 + k = i + (k + 1) from by omega]
    unfold batch at hb
    split at hb
    · cases hb
    · rename_i o ho
      split at hb
      · cases hb
      · rename_i hg
        split at hb
        · rename_i M1 hp
          exact RL.skip_ ho hg hp (RL.batch_ hb h')
        · cases hb
      · rename_i hg
        split at hb
        · rename_i hk
          split at hb
          · rename_i v hv
            split at hb
            · rename_i M1 hp
              refine RL.step ho hg (fun F hF hM => ?_) hp (RL.batch_ hb h')
              rw [known_exec hM hk]
              unfold opPev at hv
              split at hv
              · rename_i u hu
                injection hv with hv
                subst hv
                exact pev_run hu w
              · cases hv
            · cases hb
          · cases hb
        · cases hb
theorem RL.fit {ts : List Nat} (hp : pick ts M = some M') (h : RL P ops r ds Q i n M' w) : RL P ops r ds Q i n M w := fun hnd F hF hM => h hnd F hF (hM.pick hp)
theorem RL.run (k : Nat) (ts : List Nat) (M' : FM) {j : Nat} (hb : (batch P ops n k i M).bind (pick ts) = some M') (hj : i + k = j) (h : RL P ops r ds Q j n M' w) : RL P ops r ds Q i n M w := by
  subst hj
  cases hm : batch P ops n k i M with
  | none => rw [hm] at hb; cases hb
  | some M1 =>
    rw [hm] at hb
    exact RL.batch_ hm (RL.fit hb h)
theorem RL.eq {M' : FM} (he : M = M') (h : RL P ops r ds Q i n M' w) : RL P ops r ds Q i n M w := he ▸ h
theorem RG.eq {c : Code} {M' : FM} (he : M = M') (h : RG P c r ds Q n M' w) : RG P c r ds Q n M w := he ▸ h
theorem RG.fit {c : Code} (ts : List Nat) (hp : pick ts M = some M') (h : RG P c r ds Q n M' w) : RG P c r ds Q n M w := fun F hF hM => h F hF (hM.pick hp)
theorem RL.done (hi : Nat.ble ops.size i = true) (h : ∀ F : Array Value, F.size = n → Fits F M → Q .normal ⟨F, ds⟩ w) : RL P ops r ds Q i n M w := by
  intro _ F hF hM
  rw [List.drop_eq_nil_of_le (by simpa using Nat.le_of_ble_eq_true hi)]
  exact wpListIn_nil (h F hF hM)
theorem RL.semN {s : Sem Next} {v : Value} (hr : s.run P w = .ok (.value v) w') (ts : List Nat) (M' : FM) (hs : semAt ops M i = some s) (hp : (putM n M (dstAt ops i) v).bind (pick ts) = some M')
    {j : Nat} (hj : i + 1 = j) (h : RL P ops r ds Q j n M' w') : RL P ops r ds Q i n M w := by
  subst hj
  obtain ⟨o, ho, hg, hk, he, hd⟩ := semAt_spec hs
  obtain ⟨M1, h1, h2⟩ := putM_bind hp
  rw [hd] at h1
  exact RL.step ho hg (fun F hF hM => by rw [known_exec hM hk, he]; exact hr) h1 (RL.fit h2 h)
theorem RL.sem {s : Sem Value} {v : Value} (hr : s.run P w = .ok v w') (ts : List Nat) (M' : FM) (hs : semAt ops M i = some (vN s)) (hp : (putM n M (dstAt ops i) v).bind (pick ts) = some M')
    {j : Nat} (hj : i + 1 = j) (h : RL P ops r ds Q j n M' w') : RL P ops r ds Q i n M w :=
  RL.semN (by simp [vN, hr]) ts M' hs hp hj h
theorem RL.semU {s : Sem Unit} (hr : s.run P w = .ok () w') (ts : List Nat) (M' : FM) (hs : semAt ops M i = some (uN s)) (hd : dstAt ops i = none) (hp : pick ts M = some M')
    {j : Nat} (hj : i + 1 = j) (h : RL P ops r ds Q j n M' w') : RL P ops r ds Q i n M w := by
  subst hj
  obtain ⟨o, ho, hg, hk, he, hd'⟩ := semAt_spec hs
  rw [hd] at hd'
  intro hnd F hF hM
  rw [drop_at ho]
  refine wpListIn_step fun K hK => ?_
  show if Region.wanted o (yielded ops F) then _ else _
  rw [gdM_fits hM hg, if_pos rfl]
  refine ⟨fun _ _ => trivial, ?_⟩
  rw [Oper.semAt_eq _ _ _ (noDef_at hnd ho)]
  have hr' : (execOp (⟨F, ds⟩ : Act).eval o).run P w = .ok .skip w' := by
    show (execOp (⟨F, []⟩ : Act).eval o).run P w = _
    rw [known_exec hM hk, he]
    simp [uN, hr]
  rw [hr']
  show K _ _
  rw [← hd']
  exact hK _ _ (h hnd F hF (hM.pick hp))
/-- A call of a function that has a body, by its contract. -/
theorem RL.call {f : FuncId} {args : Array Value} {R : Ending → World → Prop} (hc : Calls P f args w R) (hs : (semAt ops M i).bind (pev P) = some (.enter f args)) {j : Nat} (hj : i + 1 = j)
    (h : ∀ e w', R e w' → ∃ v, e = .returned v ∧ ∃ ts M', (putM n M (dstAt ops i) v).bind (pick ts) = some M' ∧ RL P ops r ds Q j n M' w') : RL P ops r ds Q i n M w := by
  subst hj
  cases hsm : semAt ops M i with
  | none => rw [hsm] at hs; cases hs
  | some s =>
    rw [hsm] at hs
    obtain ⟨o, ho, hg, hk, he, hd⟩ := semAt_spec hsm
    intro hnd F hF hM
    rw [drop_at ho]
    refine wpListIn_step fun K hK => ?_
    show if Region.wanted o (yielded ops F) then _ else _
    rw [gdM_fits hM hg, if_pos rfl]
    refine ⟨fun _ _ => trivial, ?_⟩
    rw [Oper.semAt_eq _ _ _ (noDef_at hnd ho)]
    have hr' : (execOp (⟨F, ds⟩ : Act).eval o).run P w = .ok (.enter f args) w := by
      show (execOp (⟨F, []⟩ : Act).eval o).run P w = _
      rw [known_exec hM hk, he]
      exact pev_run hs w
    rw [hr']
    refine ⟨fun h => (by cases h), ?_⟩
    refine (callsFR hc).mono fun e w' hR => ?_
    obtain ⟨v, rfl, ts, M', hp, hG⟩ := h e w' hR
    obtain ⟨M1, h1, h2⟩ := putM_bind hp
    rw [hd] at h1
    have hp' := hM.put (d := o.dst) (v := v) (M' := M1) (by rw [hF]; exact h1)
    show K _ _
    rw [put_ds]
    exact hK _ _ (hG hnd _ (by rw [hp'.2.1, hF]) (hp'.1.pick h2))
/-- A call of yield. -/
theorem RL.yield {l : Nat} {args : Array Value} {R : Ending → World → Prop} (hy : YieldAt (FR none) 0 P l args w R) (hs : semAt ops M i = some (Instr.yield l args)) {j : Nat} (hj : i + 1 = j)
    (h : ∀ e w', R e w' → ∃ v, e = .returned v ∧ ∃ ts M', (putM n M (dstAt ops i) v).bind (pick ts) = some M' ∧ RL P ops r ds Q j n M' w') : RL P ops r ds Q i n M w := by
  subst hj
  obtain ⟨fn, tmps, assign, body, hrun, hR0⟩ := hy
  obtain ⟨o, ho, hg, hk, he, hd⟩ := semAt_spec hs
  intro hnd F hF hM
  rw [drop_at ho]
  refine wpListIn_step fun K hK => ?_
  show if Region.wanted o (yielded ops F) then _ else _
  rw [gdM_fits hM hg, if_pos rfl]
  refine ⟨fun _ _ => trivial, ?_⟩
  rw [Oper.semAt_eq _ _ _ (noDef_at hnd ho)]
  have hr' : (execOp (⟨F, ds⟩ : Act).eval o).run P w = .ok (.round l fn tmps assign body) w := by
    show (execOp (⟨F, []⟩ : Act).eval o).run P w = _
    rw [known_exec hM hk, he]
    exact hrun
  rw [hr']
  refine ⟨fun h => (by cases h), ?_⟩
  have hR1 : RoundIn (FR r) 0 P l fn tmps assign body w R := hR0
  refine hR1.mono fun e w' hR => ?_
  obtain ⟨v, rfl, ts, M', hp, hG⟩ := h e w' hR
  obtain ⟨M1, h1, h2⟩ := putM_bind hp
  rw [hd] at h1
  have hp' := hM.put (d := o.dst) (v := v) (M' := M1) (by rw [hF]; exact h1)
  show K _ _
  rw [put_ds]
  exact hK _ _ (hG hnd _ (by rw [hp'.2.1, hF]) (hp'.1.pick h2))
/-! ### code -/
theorem RG.region {id : Nat} (hnd : noDef ops = true) (h : RL P ops r ds Q 0 n M w) : RG P (.region id ops false) r ds Q n M w := fun F hF hM =>
  wpIn_region_list (by simpa using h hnd F hF hM)
theorem RG.block {id : Nat} {c : Code} (h : RG P c r ds (Exit.inBlock id Q) n M w) : RG P (.block id c) r ds Q n M w := fun F hF hM => wpIn_block (h F hF hM)
theorem RG.cond {c : Operand} {x y : Code} {b : Bool} (hc : evM M c = some (.bool b)) (hx : b = true → RG P x r ds Q n M w) (hy : b = false → RG P y r ds Q n M w) : RG P (.cond c x y) r ds Q n M w := by
  intro F hF hM
  refine wpIn_cond (t := b) (evM_fits hM hc) ?_
  cases b
  · exact hy rfl F hF hM
  · exact hx rfl F hF hM
theorem RG.yes {c : Operand} {x y : Code} (hc : evM M c = some (.bool true)) (hx : RG P x r ds Q n M w) : RG P (.cond c x y) r ds Q n M w := RG.cond hc (fun _ => hx) (fun h => by cases h)
theorem RG.no {c : Operand} {x y : Code} (hc : evM M c = some (.bool false)) (hy : RG P y r ds Q n M w) : RG P (.cond c x y) r ds Q n M w := RG.cond hc (fun h => by cases h) (fun _ => hy)
theorem RG.ret (h : ∀ F : Array Value, F.size = n → Fits F M → Q .ret ⟨F, ds⟩ w) : RG P .ret r ds Q n M w := fun F hF hM => wpIn_ret (h F hF hM)
theorem RL.k {Q' : Exit → Act → World → Prop} {K : Act → World → Prop} {b : Code} (hi : Nat.ble ops.size i = true) (hK : ∀ a w, b.wpIn (FR r) 0 P Q' a w → K a w) (hq : ∀ a w, K a w → Q .normal a w)
    (h : RG P b r ds Q' n M w) : RL P ops r ds Q i n M w := RL.done hi fun F hF hM => hq _ _ (hK _ _ (h F hF hM))
theorem RG.kk {Q' : Exit → Act → World → Prop} {K : Act → World → Prop} {b : Code} (hK : ∀ a w, b.wpIn (FR r) 0 P Q' a w → K a w) (hq : ∀ a w, K a w → Q .normal a w)
    (h : RG P b r ds Q' n M w) : ∀ F : Array Value, F.size = n → Fits F M → Q .normal ⟨F, ds⟩ w := fun F hF hM => hq _ _ (hK _ _ (h F hF hM))
theorem RG.skipK {Q' : Exit → Act → World → Prop} {K : Act → World → Prop} {b : Code} (hK : ∀ a w, b.wpIn (FR r) 0 P Q' a w → K a w) (hq : ∀ a w, K a w → Q .normal a w)
    (h : RG P b r ds Q' n M w) : RG P .skip r ds Q n M w := fun F hF hM => wpIn_skip (hq _ _ (hK _ _ (h F hF hM)))
theorem RG.exitK {Q' : Exit → Act → World → Prop} {K : Act → World → Prop} {b : Code} {id : Nat} (hK : ∀ a w, b.wpIn (FR r) 0 P Q' a w → K a w) (hq : ∀ a w, K a w → Q (.exit id) a w)
    (h : RG P b r ds Q' n M w) : RG P (.exit id) r ds Q n M w := fun F hF hM => wpIn_exit (hq _ _ (hK _ _ (h F hF hM)))
theorem RG.seqK {a b : Code} (h : ∀ K : Act → World → Prop, (∀ a w, b.wpIn (FR r) 0 P Q a w → K a w) → RG P a r ds (Exit.then K Q) n M w) : RG P (.seq a b) r ds Q n M w := fun F hF hM =>
  wpIn_seq_k fun K hK => h K hK F hF hM
theorem RG.skipDone (h : ∀ F : Array Value, F.size = n → Fits F M → Q .normal ⟨F, ds⟩ w) : RG P .skip r ds Q n M w := fun F hF hM => wpIn_skip (h F hF hM)
theorem RG.exitDone {id : Nat} (h : ∀ F : Array Value, F.size = n → Fits F M → Q (.exit id) ⟨F, ds⟩ w) : RG P (.exit id) r ds Q n M w := fun F hF hM => wpIn_exit (h F hF hM)
/-- A round's end: the loop goes on from a state x'. -/
def AgainR (n : Nat) (ds : List Deferred) {X : Type} (Mx : X → FM) (J : X → World → Prop) (μ : X → Nat) (x : X) : Act → World → Prop :=
  fun a w => ∃ x', μ x' < μ x ∧ J x' w ∧ ∃ F : Array Value, a = ⟨F, ds⟩ ∧ F.size = n ∧ Fits F (Mx x')
theorem RG.loop {X : Type} {c : Code} (Mx : X → FM) (J : X → World → Prop) (μ : X → Nat) (x0 : X) (ts : List Nat) (hM : pick ts M = some (Mx x0)) (hJ : J x0 w)
    (hstep : ∀ x w, J x w → RG P c r ds (Exit.then (AgainR n ds Mx J μ x) Q) n (Mx x) w) : RG P (.loop c) r ds Q n M w := by
  have key : ∀ m x w, μ x ≤ m → J x w → ∀ F : Array Value, F.size = n → Fits F (Mx x) → Code.roundsIn (FR r) 0 P c Q (m + 1) ⟨F, ds⟩ w := by
    intro m
    induction m with
    | zero =>
      intro x w hm hx F hF hFit
      rw [roundsIn_succ]
      refine wpIn_mono (hstep x w hx F hF hFit) ?_
      intro e a' w' hq
      cases e with
      | normal =>
        obtain ⟨x', hlt, _⟩ := hq
        omega
      | _ => exact hq
    | succ m ih =>
      intro x w hm hx F hF hFit
      rw [roundsIn_succ]
      refine wpIn_mono (hstep x w hx F hF hFit) ?_
      intro e a' w' hq
      cases e with
      | normal =>
        obtain ⟨x', hlt, hJ', F', rfl, hF', hfit'⟩ := hq
        exact ih x' w' (by omega) hJ' F' hF' hfit'
      | _ => exact hq
  intro F hF hFit
  exact wpIn_loop_rounds _ (key (μ x0) x0 w (Nat.le_refl _) hJ F hF (hFit.pick hM))
theorem RL.again {X : Type} {Mx : X → FM} {J : X → World → Prop} {μ : X → Nat} {x : X} {Q : Exit → Act → World → Prop} (x' : X) (ts : List Nat) (hi : Nat.ble ops.size i = true) (hp : pick ts M = some (Mx x')) (hμ : μ x' < μ x) (hJ : J x' w) :
    RL P ops r ds (Exit.then (AgainR n ds Mx J μ x) Q) i n M w :=
  RL.done hi fun F hF hM => ⟨x', hμ, hJ, F, rfl, hF, hM.pick hp⟩
theorem RG.unroll {c : Code} (k : Nat) (h : RG P c r ds (Exit.then (Code.roundsIn (FR r) 0 P c Q k) Q) n M w) : RG P (.loop c) r ds Q n M w := fun F hF hM => wpIn_loop_rounds (k + 1) (h F hF hM)
theorem RL.round {c : Code} {Q : Exit → Act → World → Prop} {k : Nat} (hi : Nat.ble ops.size i = true) (h : RG P c r ds (Exit.then (Code.roundsIn (FR r) 0 P c Q k) Q) n M w) : RL P ops r ds (Exit.then (Code.roundsIn (FR r) 0 P c Q (k + 1)) Q) i n M w :=
  RL.done hi fun F hF hM => h F hF hM

/-! ### a function's end -/
def MK (D : Nat) : Deferred := { target := .collected D, args := #[] }
def DF : Obj := .deferred (some [])
theorem calls_R {f : FuncId} {fn : Func} {c : Code} {args : List Value} {R : Ending → World → Prop} (hf : P.funcs[f]? = some fn) (hb : fn.body = some c) (hn : fn.ntmps = n) (hl : Nat.ble args.length n = true)
    (h : ∀ Q : Exit → Act → World → Prop, (∀ a w, bodyPostM (FR none) 0 P fn R .ret a w → Q .ret a w) → (∀ a w, bodyPostM (FR none) 0 P fn R .ret a w → Q .normal a w) → RG P c none [] Q n (argsM 0 args) w) : Calls P f args.toArray w R := by
  refine (callsIn_wide (n := 0)).1 ?_
  refine callsIn_of_wp_marks (F := Fence.wide) hf hb trivial ?_ rfl
  refine h (bodyPostM (FR none) 0 P fn R) (fun _ _ h => h) (fun _ _ h => h) _ ?_ ?_
  · have := Nat.le_of_ble_eq_true hl
    simp [hn]; omega
  · exact fits_args args _ args 0 (fun j => by left; simp)
theorem postM_1 {fn : Func} {R : Ending → World → Prop} {q : ResultVar} {v : Value} (hr : fn.results = #[q]) (hv : RV P M w q v) (h : R (.returned v) w) :
    ∀ F : Array Value, F.size = n → Fits F M → bodyPostM (FR none) 0 P fn R .ret ⟨F, []⟩ w := fun F _ hM =>
  ⟨v, by rw [results_resOf, hr]; simp only [Sem.run_bind, run_mapM1 (hv.run hM), Result.andThen_ok]; rfl, h⟩
theorem postM_2 {fn : Func} {R : Ending → World → Prop} {q s : ResultVar} {v x : Value} (hr : fn.results = #[q, s]) (hv : RV P M w q v) (hx : RV P M w s x) (h : R (.returned (.tuple #[v, x])) w) :
    ∀ F : Array Value, F.size = n → Fits F M → bodyPostM (FR none) 0 P fn R .ret ⟨F, []⟩ w := fun F _ hM =>
  ⟨.tuple #[v, x], by rw [results_resOf, hr]; simp only [Sem.run_bind, run_mapM2 (hv.run hM) (hx.run hM), Result.andThen_ok]; rfl, h⟩
theorem postM_0 {fn : Func} {R : Ending → World → Prop} (hr : fn.results = #[]) (h : R (.returned (.tuple #[])) w) :
    ∀ F : Array Value, F.size = n → Fits F M → bodyPostM (FR none) 0 P fn R .ret ⟨F, []⟩ w := fun F _ _ =>
  ⟨.tuple #[], by simp [results, hr], h⟩
theorem postK_1 {fn : Func} {R : Ending → World → Prop} {q : ResultVar} {v : Value} {D : Nat} (hD : w.heap[D]? = some DF) (hr : fn.results = #[q]) (hv : RV P M (w.putObj D (.deferred none)) q v) (h : R (.returned v) (w.putObj D (.deferred none))) :
    ∀ F : Array Value, F.size = n → Fits F M → bodyPostM (FR none) 0 P fn R .ret ⟨F, [MK D]⟩ w := fun F _ hM =>
  ⟨by simp, .inl ⟨D, _, rfl, run_takeDeferred hD, v, by rw [results_resOf, hr]; simp only [Sem.run_bind, run_mapM1 (hv.run hM), Result.andThen_ok]; rfl, h⟩⟩
theorem postK_2 {fn : Func} {R : Ending → World → Prop} {q s : ResultVar} {v x : Value} {D : Nat} (hD : w.heap[D]? = some DF) (hr : fn.results = #[q, s]) (hv : RV P M (w.putObj D (.deferred none)) q v) (hx : RV P M (w.putObj D (.deferred none)) s x) (h : R (.returned (.tuple #[v, x])) (w.putObj D (.deferred none))) :
    ∀ F : Array Value, F.size = n → Fits F M → bodyPostM (FR none) 0 P fn R .ret ⟨F, [MK D]⟩ w := fun F _ hM =>
  ⟨by simp, .inl ⟨D, _, rfl, run_takeDeferred hD, .tuple #[v, x], by rw [results_resOf, hr]; simp only [Sem.run_bind, run_mapM2 (hv.run hM) (hx.run hM), Result.andThen_ok]; rfl, h⟩⟩
end

/-! ### the objects of a range over a function, among the known -/
section
variable {P : Program} {w0 w : World} {S : List Nat} {L : List Ent}
theorem Hp.objAt (H : Hp w0 S L w) (i : Nat) {k : Nat} {o : Obj} (hL : L[i]? = some (.obj k o)) : w.heap[k]? = some o := H.ents _ (List.mem_of_getElem? hL)
theorem Hp.putObj (H : Hp w0 S L w) (i : Nat) {k : Nat} {o : Obj} (o' : Obj) (hL : L[i]? = some (.obj k o)) : Hp w0 S (L.set i (.obj k o')) (w.putObj k o') := by
  have h1 := H.objAt i hL
  have hlt := (Array.getElem?_eq_some_iff.1 h1).1
  exact H.turn i hL rfl (World.putObj_heap_same hlt) rfl rfl rfl (by simp) (fun j _ hj => World.putObj_heap_other (by simpa [Ent.ids] using hj))
theorem Hp.newObj (H : Hp w0 S L w) (o : Obj) : Hp w0 S (L ++ [.obj w.heap.size o]) (w.alloc o) := by
  refine H.callNew (L' := [.obj w.heap.size o]) ⟨rfl, rfl, rfl, by simp, fun k hk _ => heap_alloc_old w _ hk, ?_, ?_, by simp [ids, Ent.ids]⟩
  · intro e he
    simp at he
    subst he
    exact World.alloc_heap_new w o
  · intro k hk
    simp [ids, Ent.ids] at hk
    omega
theorem set_last2 {α : Type} (A : List α) (x y z : α) : (A ++ [x, y]).set (A.length + 1) z = A ++ [x, z] := by
  rw [List.set_append_right _ _ (by omega)]
  simp
theorem Hp.turnLast {A : List Ent} {e : Ent} {k : Nat} {o : Obj} (H : Hp w0 S (A ++ [e, .obj k o]) w) (o' : Obj) : Hp w0 S (A ++ [e, .obj k o']) (w.putObj k o') := by
  have h := H.putObj (A.length + 1) (k := k) (o := o) o' (by simp)
  rwa [set_last2] at h
theorem Hp.last {A : List Ent} {e : Ent} {k : Nat} {o : Obj} (H : Hp w0 S (A ++ [e, .obj k o]) w) : w.heap[k]? = some o := H.objAt (A.length + 1) (by simp)
theorem Hp.dropLast {A : List Ent} {e : Ent} {k : Nat} {o : Obj} (H : Hp w0 S (A ++ [e, .obj k o]) w) : Hp w0 S (A ++ [e]) w := by
  refine H.sub ?_
  refine List.Sublist.append_left ?_ A
  exact List.Sublist.cons_cons _ (List.nil_sublist _)
end

/-- WHAT AN ITERATOR PROMISES: it hands over enc 0, enc 1, .. enc (N - 1), one round each, till a round says 'no more'; it reads what Rd says, and turns nothing. -/
def Iter (P : Program) (gf : Nat) (lb : Array Value) (N : Nat) (enc : Nat → Array Value) (Rd : World → Prop) : Prop :=
  ∀ (l : Nat) (J : Nat → World → Prop) (Jx : World → Prop), (∀ k W, J k W → Rd W) → (∀ k W W', J k W → Below W.heap.size W W' → J k W') →
    (∀ k W, k < N → J k W → YieldAt (FR none) 0 P l (enc k) W fun e W' => (e = .returned (.bool true) ∧ J (k + 1) W') ∨ (e = .returned (.bool false) ∧ Jx W')) →
    ∀ W, J 0 W → Calls P gf (#[.func (.yield l) #[] #[]] ++ lb) W fun e W' => (∃ v, e = .returned v) ∧ (J N W' ∨ Jx W')

theorem yield_cases {A B : World → Prop} {e : Ending} {w : World} (h : (e = .returned (.bool true) ∧ A w) ∨ (e = .returned (.bool false) ∧ B w)) : ∃ b : Bool, e = .returned (.bool b) ∧ (b = true → A w) ∧ (b = false → B w) := by
  rcases h with ⟨rfl, h⟩ | ⟨rfl, h⟩
  · exact ⟨true, rfl, fun _ => h, fun h => by cases h⟩
  · exact ⟨false, rfl, fun h => (by cases h), fun _ => h⟩

theorem getD_some {ls : List Nat} {k : Nat} (h : k < ls.length) : ls[k]? = some (ls.getD k 0) := by rw [List.getD_eq_getElem?_getD, List.getElem?_eq_getElem h]; rfl
/-- How the body of a round is left. -/
def RoundQ (w0 : World) (S : List Nat) {Xt : Type} (inv : Nat → Xt → Prop) (Lx : Nat → Xt → List Ent) (invr : Xt → Prop) (Lr : Xt → List Ent) (k : Nat) (E : List Ent) : Exit → Act → World → Prop
  | .normal, _, W => ∃ x, inv (k + 1) x ∧ Hp w0 S (Lx (k + 1) x ++ E) W
  | .ret, _, W => ∃ x, invr x ∧ Hp w0 S (Lr x ++ E) W
  | _, _, _ => False

section
variable {P : Program} {n : Nat} {M : FM} {w w0 : World} {S : List Nat} {L : List Ent} {Q : Exit → Act → World → Prop}
/-- The frame of a round: the parameters' slots filled. -/
def putL (n : Nat) : List (Nat × Value) → FM → Option FM
  | [], M => some M
  | (p, v) :: l, M => match putM n M (some p) v with
    | some M' => putL n l M'
    | none => none
theorem putL_fits : ∀ (l : List (Nat × Value)) {M M' : FM} {F : Array Value}, F.size = n → Fits F M → putL n l M = some M' →
    (l.foldl (fun t (q : Nat × Value) => t.setIfInBounds q.1 q.2) F).size = n ∧ Fits (l.foldl (fun t (q : Nat × Value) => t.setIfInBounds q.1 q.2) F) M'
  | [], M, M', F, hF, hM, h => by
    simp only [putL, Option.some.injEq] at h
    subst h
    exact ⟨hF, hM⟩
  | (p, v) :: l, M, M', F, hF, hM, h => by
    unfold putL at h
    split at h
    · rename_i M1 h1
      have hp := hM.put (d := some p) (v := v) (M' := M1) (by rw [hF]; exact h1)
      exact putL_fits l (by simpa [Act.put] using hp.2.1.trans hF) (by simpa [Act.put] using hp.1) h
    · cases h
/-- **A RANGE OVER A FUNCTION.** inv, Lx: what holds, and what is known, when k elements have come; invr, Lr: where a round has returned from the function. -/
theorem RG.range {g : Operand} {ps : Array Tmp} {assign body : Code} {gf : Nat} {lb : Array Value} (H : Hp w0 S L w) (hg : evM M g = some (.func (.func gf) #[] lb)) (he : ∀ args w, (callFunc gf args).run P w = .ok (.enter gf args) w)
    {Xt : Type} (inv : Nat → Xt → Prop) (Lx : Nat → Xt → List Ent) (invr : Xt → Prop) (Lr : Xt → List Ent) {N : Nat} {enc : Nat → Array Value} {Rd : World → Prop} (hit : Iter P gf lb N enc Rd) (hps : ∀ k, (enc k).size = ps.size)
    (x0 : Xt) (h0 : inv 0 x0) (hL0 : Lx 0 x0 = L) (hRd : ∀ k x E W, inv k x → Hp w0 S (Lx k x ++ E) W → Rd W)
    (Mb : Nat → FM) (hMb : ∀ k, putL n (ps.toList.zip (enc k).toList) M = some (Mb k))
    (hround : ∀ (D l : Nat) (oR oB : Obj) (k : Nat) (x : Xt) (W : World) (K : Act → World → Prop), k < N → inv k x → Hp w0 S (Lx k x ++ [.obj D DF, .obj l oR]) W →
      (∀ (F : Array Value) (M' : FM) (L' : List Ent) (W' : World), F.size = n → Fits F M' → Hp w0 S (L' ++ [.obj D DF, .obj l oR]) W' →
        (∀ W'', Hp w0 S (L' ++ [.obj D DF, .obj l oB]) W'' → RG P body (some l) [] (RoundQ w0 S inv Lx invr Lr k [.obj D DF, .obj l oB]) n M' W'') → K ⟨F, []⟩ W') →
      RG P assign (some l) [] (Exit.then K (fun _ _ _ => False)) n (Mb k) W)
    (hdone : ∀ (D : Nat) (x : Xt) (W : World), inv N x → Hp w0 S (Lx N x ++ [.obj D DF]) W → ∀ F : Array Value, F.size = n → Fits F M → Q .normal ⟨F, [MK D]⟩ W)
    (hstop : ∀ (D : Nat) (x : Xt) (W : World), invr x → Hp w0 S (Lr x ++ [.obj D DF]) W → ∀ F : Array Value, F.size = n → Fits F M → Q .ret ⟨F, [MK D]⟩ W) :
    RG P (.rangeFunc g ps assign body) none [] Q n M w := by
  intro F hF hM
  refine wpIn_rangeFunc ?_
  intro fn _
  have hev : (⟨F, []⟩ : Act).eval g = .func (.func gf) #[] lb := evM_fits hM hg
  obtain ⟨rec, hrec⟩ : ∃ rec : LoopState → Option Code → Loop, rec = fun st pe => { state := st, pending := pe, fn, tmps := F, params := ps, assign, body, defers := w.heap.size } := ⟨_, rfl⟩
  have H1 := (H.newObj DF).newObj (.loop (rec .ready none))
  rw [List.append_assoc] at H1
  obtain ⟨W1, hW1⟩ : ∃ W1, (w.alloc DF).alloc (.loop (rec .ready none)) = W1 := ⟨_, rfl⟩
  rw [hW1, World.size_alloc] at H1
  refine ⟨w.heap.size + 1, [MK w.heap.size], W1, { target := .fn (.func gf) lb, args := #[.func (.yield (w.heap.size + 1)) #[] #[]] }, W1, gf, #[.func (.yield (w.heap.size + 1)) #[] #[]] ++ lb, W1, ?_, ?_, fun _ _ => trivial, ?_, fun h => (by cases h), ?_⟩
  · rw [← hW1, hrec]
    exact run_enterLoop_outer _ _ _ _ _
  · simp only [resolve, hev]
    simp [go_sem]
  · simp [invoke, go_sem, he]
  · generalize w.heap.size = D at *
    have hyield : ∀ k W, k < N → (∃ x, inv k x ∧ Hp w0 S (Lx k x ++ [.obj D DF, .obj (D + 1) (.loop (rec .ready none))]) W) → YieldAt (FR none) 0 P (D + 1) (enc k) W fun e W' =>
        (e = .returned (.bool true) ∧ ∃ x, inv (k + 1) x ∧ Hp w0 S (Lx (k + 1) x ++ [.obj D DF, .obj (D + 1) (.loop (rec .ready none))]) W') ∨
        (e = .returned (.bool false) ∧ ∃ x, invr x ∧ Hp w0 S (Lr x ++ [.obj D DF, .obj (D + 1) (.loop (rec .done (some .ret)))]) W') := by
      rintro k W hk ⟨x, hx, HW⟩
      have hl := HW.last
      have hy := run_yield (P := P) (args := enc k) hl (by rw [hrec]; exact hps k)
      rw [hrec] at hy
      refine ⟨fn, _, assign, body, hy, roundIn_of_wpIn (F := FR none) trivial ?_⟩
      have hfit : ((ps.zip (enc k)).foldl (fun t (p, v) => t.setIfInBounds p v) F).size = n ∧ Fits ((ps.zip (enc k)).foldl (fun t (p, v) => t.setIfInBounds p v) F) (Mb k) := by
        have h2 := putL_fits _ hF hM (hMb k)
        rw [← Array.foldl_toList, Array.toList_zip]
        exact h2
      refine hround D (D + 1) (.loop (rec .ready none)) (.loop { rec .ready none with state := .busy }) k x W _ hk hx HW ?_ _ hfit.1 hfit.2
      intro F' M' L' W' hF' hM' HW' hbody
      have hl' := HW'.last
      refine ⟨_, run_beginRound hl' (by rw [hrec]), ?_⟩
      have HB := HW'.turnLast (.loop { rec .ready none with state := .busy })
      refine wpIn_mono (hbody _ HB F' hF' hM') ?_
      intro e a3 W3 hp
      cases e with
      | normal =>
        obtain ⟨x', hx', H3⟩ := hp
        have hl3 := H3.last
        have hr := run_endRound (P := P) none hl3
        rw [hrec] at hr
        refine ⟨_, _, hr, .inl ⟨rfl, x', hx', ?_⟩⟩
        have H4 := H3.turnLast (.loop (rec .ready none))
        rw [hrec] at H4 ⊢
        exact H4
      | ret =>
        obtain ⟨x', hx', H3⟩ := hp
        have hl3 := H3.last
        have hr := run_endRound (P := P) (some .ret) hl3
        rw [hrec] at hr
        refine ⟨_, _, hr, .inr ⟨rfl, x', hx', ?_⟩⟩
        have H4 := H3.turnLast (.loop (rec .done (some .ret)))
        rw [hrec] at H4 ⊢
        exact H4
      | _ => exact hp.elim
    refine (callsFR (hit (D + 1) (fun k W => ∃ x, inv k x ∧ Hp w0 S (Lx k x ++ [.obj D DF, .obj (D + 1) (.loop (rec .ready none))]) W)
      (fun W => ∃ x, invr x ∧ Hp w0 S (Lr x ++ [.obj D DF, .obj (D + 1) (.loop (rec .done (some .ret)))]) W)
      (fun k W ⟨x, hx, HW⟩ => hRd k x _ W hx HW) (fun k W W' ⟨x, hx, HW⟩ hb => ⟨x, hx, HW.step hb⟩) hyield W1 ⟨x0, h0, by rw [hL0]; exact H1⟩)).mono ?_
    rintro e W2 ⟨⟨v, rfl⟩, (⟨x, hx, HW⟩ | ⟨x, hx, HW⟩)⟩
    · have hl := HW.last
      have hr := run_endLoop (P := P) hl (by rw [hrec]; simp)
      rw [hrec] at hr
      exact ⟨none, _, hr, hdone D x _ hx (HW.turnLast _).dropLast F hF hM⟩
    · have hl := HW.last
      have hr := run_endLoop (P := P) hl (by rw [hrec]; simp)
      rw [hrec] at hr
      exact ⟨some .ret, _, hr, wpIn_ret (hstop D x _ hx (HW.turnLast _).dropLast F hF hM)⟩
end
end Go.Proofs.Ytgmggjnoegelgaa
