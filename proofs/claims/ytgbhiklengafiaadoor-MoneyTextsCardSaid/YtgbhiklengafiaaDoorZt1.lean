/- Part 1 of what moneyTextsCard_proved stands on. -/
import Derived.Test.YtgbhiklengafiaaDoorRows
import Derived.WalkKit
import Derived.Deep.Quiet
import Derived.KernelRfl
import Derived.Maps.AppendAt
import Derived.Laws.CopyRow
import Derived.StillTail
import Derived.OrdersHeld
import Derived.Laws.BytesString
import Derived.Lib.ConvBytes
import Derived.ChangeKeysEq
import Derived.Laws.StructEq
import Derived.ProofKit
import Derived.OpenShut
import Derived.Laws.Externs
import Derived.Lib.Mul64
import Derived.Lib.Zigzag
import Derived.Test.YtgbhiklengafiaaDoorSh
import Derived.Deep.Slices
import Derived.Lib.ParseIntB
import Derived.Lib.ItoaNum
import Derived.Shelf.Spec.BitsCarry
import Derived.Lib.AtoiErrMem
import Derived.Lib.AppendIntMem
import Derived.LaidMore
import Derived.Stop.Joined
import Derived.Stop.LaidErr
import Derived.Lib.LaidTab
import Derived.ShutString
import Derived.ChangeOld
import Derived.Below
import Derived.Test.YtgbhiklengafiaaDoorTie
import Derived.Test.YtgbhiklengafiaaDoorCards
import Derived.SevenTiedAt
set_option linter.unusedVariables false
namespace Go.Proofs.YtgbhiklengafiaaDoor
open Go.RowKit
abbrev FM := List (Nat × Value)
def Fits (F : Array Value) (M : FM) : Prop := ∀ p ∈ M, F[p.1]? = some p.2
def lk : FM → Nat → Option Value
  | [], _ => none
  | (k, v) :: r, t => if k == t then some v else lk r t
def del : FM → Nat → FM
  | [], _ => []
  | (k, v) :: r, t => if k == t then del r t else (k, v) :: del r t
def pick : List Nat → FM → Option FM
  | [], _ => some []
  | t :: ts, M => match lk M t, pick ts M with
    | some v, some r => some ((t, v) :: r)
    | _, _ => none
theorem Fits.lk {F : Array Value} {M : FM} (h : Fits F M) {t : Nat} {v : Value} (hv : lk M t = some v) : F[t]? = some v := by
  induction M with
  | nil => simp [Go.Proofs.YtgbhiklengafiaaDoor.lk] at hv
  | cons p r ih =>
    obtain ⟨k, u⟩ := p
    unfold Go.Proofs.YtgbhiklengafiaaDoor.lk at hv
    split at hv
    · rename_i hk
      have hk : k = t := by simpa using hk
      subst hk
      injection hv with hv
      subst hv
      exact h (k, u) (by simp)
    · exact ih (fun p hp => h p (by simp [hp])) hv
theorem mem_del {M : FM} {t : Nat} {p : Nat × Value} (h : p ∈ del M t) : p ∈ M ∧ p.1 ≠ t := by
  induction M with
  | nil => simp [del] at h
  | cons q r ih =>
    obtain ⟨k, u⟩ := q
    unfold del at h
    split at h
    · have := ih h
      exact ⟨by simp [this.1], this.2⟩
    · rename_i hk
      have hk : k ≠ t := by simpa using hk
      rcases List.mem_cons.1 h with rfl | h
      · exact ⟨by simp, hk⟩
      · have := ih h
        exact ⟨by simp [this.1], this.2⟩
theorem Fits.pick {F : Array Value} {M : FM} (h : Fits F M) : ∀ {ts : List Nat} {M' : FM}, pick ts M = some M' → Fits F M'
  | [], M', hp => by
    simp [Go.Proofs.YtgbhiklengafiaaDoor.pick] at hp
    subst hp
    intro p hp
    simp at hp
  | t :: ts, M', hp => by
    unfold Go.Proofs.YtgbhiklengafiaaDoor.pick at hp
    split at hp
    · rename_i v r hv hr
      injection hp with hp
      subst hp
      intro p hp
      rcases List.mem_cons.1 hp with rfl | hp
      · exact h.lk hv
      · exact Fits.pick h hr p hp
    · cases hp
def putM (n : Nat) (M : FM) (d : Option Nat) (v : Value) : Option FM :=
  match d with
  | none => some M
  | some d => if d < n then some ((d, v) :: del M d) else none
theorem Fits.put {F : Array Value} {M M' : FM} {d : Option Nat} {v : Value} (h : Fits F M) (hp : putM F.size M d v = some M') :
    Fits ((⟨F, []⟩ : Act).put d v).tmps M' ∧ ((⟨F, []⟩ : Act).put d v).tmps.size = F.size ∧ ((⟨F, []⟩ : Act).put d v) = ⟨((⟨F, []⟩ : Act).put d v).tmps, []⟩ := by
  cases d with
  | none =>
    simp [putM] at hp
    subst hp
    exact ⟨h, rfl, rfl⟩
  | some d =>
    unfold putM at hp
    simp only at hp
    split at hp
    · rename_i hd
      injection hp with hp
      subst hp
      refine ⟨?_, by simp [Act.put], rfl⟩
      intro p hp
      rcases List.mem_cons.1 hp with rfl | hp
      · simp [Act.put, hd]
      · have := mem_del hp
        simp only [Act.put]
        rw [Array.getElem?_setIfInBounds_ne (Ne.symm this.2)]
        exact h p this.1
    · cases hp
def evM (M : FM) : Operand → Option Value
  | .tmp t => lk M t
  | .const v => some v
  | .global g => some (.pointer (some ⟨g, 0, none⟩))
  | .func f => some (.func (.func f) #[] #[])
def evD (M : FM) (x : Operand) : Value := (evM M x).getD undef
theorem evM_fits {F : Array Value} {M : FM} (h : Fits F M) {x : Operand} {v : Value} (hv : evM M x = some v) : (⟨F, []⟩ : Act).eval x = v := by
  cases x with
  | tmp t =>
    have := h.lk hv
    simp [Act.eval, this]
  | const u => simpa [evM, Act.eval] using hv
  | global g => simpa [evM, Act.eval] using hv
  | func f => simpa [evM, Act.eval] using hv
def knownL (M : FM) : List Operand → Bool
  | [] => true
  | x :: r => (evM M x).isSome && knownL M r
def isSelect : Op → Bool
  | .select _ _ => true
  | _ => false
def known (M : FM) (o : Oper) : Bool := !isSelect o.op && knownL M o.op.operands.toList
theorem knownL_mem {M : FM} : ∀ {l : List Operand}, knownL M l = true → ∀ x ∈ l, (evM M x).isSome = true
  | [], _, x, hx => by simp at hx
  | y :: r, h, x, hx => by
    simp only [knownL, Bool.and_eq_true] at h
    rcases List.mem_cons.1 hx with rfl | hx
    · exact h.1
    · exact knownL_mem h.2 x hx
theorem known_exec {F : Array Value} {M : FM} (h : Fits F M) {o : Oper} (hk : known M o = true) : execOp (⟨F, []⟩ : Act).eval o = execOp (evD M) o := by
  simp only [known, Bool.and_eq_true, Bool.not_eq_true'] at hk
  refine execOp_congr o (fun cs b he => ?_) (fun x hx => ?_)
  · rw [he] at hk
    simp [isSelect] at hk
  · have := knownL_mem hk.2 x (by simpa using hx)
    obtain ⟨v, hv⟩ := Option.isSome_iff_exists.1 this
    rw [evM_fits h hv]
    simp [evD, hv]
def gdM (ops : Array Oper) (M : FM) (o : Oper) : Option Bool :=
  match o.guard with
  | none => some true
  | some (j, want) => match (ops[j]?).bind (·.dst) with
    | none => none
    | some d => match lk M d with
      | some (.bool b) => some (b == want)
      | some (.tuple _) => some false
      | _ => none
theorem gdM_fits {ops : Array Oper} {F : Array Value} {M : FM} (h : Fits F M) {o : Oper} {b : Bool} (hg : gdM ops M o = some b) : Region.wanted o (yielded ops F) = b := by
  unfold gdM at hg
  unfold Region.wanted
  split at hg
  · rename_i hn
    rw [hn]
    simpa using hg
  · rename_i j want hn
    rw [hn]
    simp only
    split at hg
    · cases hg
    · rename_i d hd
      split at hg
      · rename_i c hc
        have hy : yielded ops F j = some c := by
          unfold yielded
          rw [hd]
          simp [h.lk hc]
        rw [hy]
        exact Option.some.inj hg
      · rename_i c hc
        have hy : yielded ops F j = none := by
          unfold yielded
          rw [hd]
          simp [h.lk hc]
        rw [hy]
        exact Option.some.inj hg
      · cases hg
def pev {α : Type} (P : Program) : Sem α → Option α
  | .pure a => some a
  | .program k => pev P (k P)
  | .mark _ k => pev P k
  | _ => none
theorem pev_run {α : Type} {P : Program} : ∀ {s : Sem α} {a : α}, pev P s = some a → ∀ w, s.run P w = .ok a w := by
  intro s
  induction s with
  | pure b => intro a h w; simp [pev] at h; subst h; rfl
  | program k ih => intro a h w; simp only [pev] at h; simp only [Sem.run]; exact ih P h w
  | mark m k ih => intro a h w; simp only [pev] at h; simp only [Sem.run]; exact ih h w
  | _ => intro a h; simp [pev] at h
def opPev (P : Program) (M : FM) (o : Oper) : Option Value :=
  match pev P (execOp (evD M) o) with
  | some (.value v) => some v
  | _ => none
def batch (P : Program) (ops : Array Oper) (n : Nat) : (k : Nat) → (i : Nat) → FM → Option FM
  | 0, _, M => some M
  | k + 1, i, M => match ops[i]? with
    | none => none
    | some o => match gdM ops M o with
      | none => none
      | some false => match putM n M o.dst undef with
        | some M' => batch P ops n k (i + 1) M'
        | none => none
      | some true => if known M o then
          match opPev P M o with
          | some v => match putM n M o.dst v with
            | some M' => batch P ops n k (i + 1) M'
            | none => none
          | none => none
        else none
def GL (P : Program) (ops : Array Oper) (Q : Exit → Act → World → Prop) (i n : Nat) (M : FM) (w : World) : Prop :=
  ∀ F : Array Value, F.size = n → Fits F M → wpList P ops Q (ops.toList.drop i) ⟨F, []⟩ w
def G (P : Program) (c : Code) (Q : Exit → Act → World → Prop) (n : Nat) (M : FM) (w : World) : Prop :=
  ∀ F : Array Value, F.size = n → Fits F M → c.wp P Q ⟨F, []⟩ w
section
variable {P : Program} {ops : Array Oper} {Q : Exit → Act → World → Prop} {i n : Nat} {M M' : FM} {w : World}
theorem drop_at {o : Oper} (ho : ops[i]? = some o) : ops.toList.drop i = o :: ops.toList.drop (i + 1) := by
  have h : ops.toList[i]? = some o := by simpa using ho
  have hl : i < ops.toList.length := (List.getElem?_eq_some_iff.1 h).1
  rw [List.drop_eq_getElem_cons hl]
  congr 1
  exact (List.getElem?_eq_some_iff.1 h).2
theorem GL.step {o : Oper} {w' : World} {v : Value} (ho : ops[i]? = some o) (hg : gdM ops M o = some true)
    (hr : ∀ F : Array Value, F.size = n → Fits F M → (execOp (⟨F, []⟩ : Act).eval o).run P w = .ok (.value v) w')
    (hp : putM n M o.dst v = some M') (h : GL P ops Q (i + 1) n M' w') : GL P ops Q i n M w := by
  intro F hF hM
  rw [drop_at ho]
  refine wpList_step fun K hK => ?_
  rw [gdM_fits hM hg, if_pos rfl]
  unfold Oper.wp
  rw [hr F hF hM]
  have hp' := hM.put (d := o.dst) (v := v) (M' := M') (by rw [hF]; exact hp)
  show K _ _
  rw [hp'.2.2]
  exact hK _ _ (h _ (by rw [hp'.2.1, hF]) hp'.1)
theorem GL.skip_ {o : Oper} (ho : ops[i]? = some o) (hg : gdM ops M o = some false) (hp : putM n M o.dst undef = some M') (h : GL P ops Q (i + 1) n M' w) : GL P ops Q i n M w := by
  intro F hF hM
  rw [drop_at ho]
  refine wpList_step fun K hK => ?_
  rw [gdM_fits hM hg]
  simp only [Bool.false_eq_true, if_false]
  have hp' := hM.put (d := o.dst) (v := undef) (M' := M') (by rw [hF]; exact hp)
  rw [hp'.2.2]
  exact hK _ _ (h _ (by rw [hp'.2.1, hF]) hp'.1)
theorem GL.batch_ : ∀ {k i : Nat} {M M' : FM}, batch P ops n k i M = some M' → GL P ops Q (i + k) n M' w → GL P ops Q i n M w
  | 0, i, M, M', hb, h => by
    simp [batch] at hb
    subst hb
    exact h
  | k + 1, i, M, M', hb, h => by
    have h' : GL P ops Q (i + 1 + k) n M' w := by rwa [show i + 1 + k = i + (k + 1) from by omega]
    unfold batch at hb
    split at hb
    · cases hb
    · rename_i o ho
      split at hb
      · cases hb
      · rename_i hg
        split at hb
        · rename_i M1 hp
          exact GL.skip_ ho hg hp (GL.batch_ hb h')
        · cases hb
      · rename_i hg
        split at hb
        · rename_i hk
          split at hb
          · rename_i v hv
            split at hb
            · rename_i M1 hp
              refine GL.step ho hg (fun F hF hM => ?_) hp (GL.batch_ hb h')
              rw [known_exec hM hk]
              unfold opPev at hv
              split at hv
              · rename_i u hu
                injection hv with hv
                subst hv
                exact pev_run hu w
              · cases hv
            · cases hb
          · cases hb
        · cases hb
theorem GL.fit {ts : List Nat} (hp : pick ts M = some M') (h : GL P ops Q i n M' w) : GL P ops Q i n M w := fun F hF hM => h F hF (hM.pick hp)
theorem GL.run (k : Nat) (ts : List Nat) (M' : FM) {j : Nat} (hb : (batch P ops n k i M).bind (pick ts) = some M') (hj : i + k = j) (h : GL P ops Q j n M' w) : GL P ops Q i n M w := by
  subst hj
  cases hm : batch P ops n k i M with
  | none => rw [hm] at hb; cases hb
  | some M1 =>
    rw [hm] at hb
    exact GL.batch_ hm (GL.fit hb h)
theorem GL.eq {M' : FM} (he : M = M') (h : GL P ops Q i n M' w) : GL P ops Q i n M w := he ▸ h
theorem G.eq {c : Code} {M' : FM} (he : M = M') (h : G P c Q n M' w) : G P c Q n M w := he ▸ h
theorem G.fit {c : Code} (ts : List Nat) (hp : pick ts M = some M') (h : G P c Q n M' w) : G P c Q n M w := fun F hF hM => h F hF (hM.pick hp)
theorem GL.done (hi : Nat.ble ops.size i = true) (h : ∀ F : Array Value, F.size = n → Fits F M → Q .normal ⟨F, []⟩ w) : GL P ops Q i n M w := by
  intro F hF hM
  rw [List.drop_eq_nil_of_le (by simpa using Nat.le_of_ble_eq_true hi)]
  exact wpList_nil (h F hF hM)
theorem G.region {id : Nat} (h : GL P ops Q 0 n M w) : G P (.region id ops false) Q n M w := fun F hF hM =>
  wp_region_list (by simpa using h F hF hM)
theorem G.seq {a b : Code} (h : G P a (Exit.then (fun a w => b.wp P Q a w) Q) n M w) : G P (.seq a b) Q n M w := fun F hF hM => wp_seq (h F hF hM)
theorem G.block {id : Nat} {c : Code} (h : G P c (Exit.inBlock id Q) n M w) : G P (.block id c) Q n M w := fun F hF hM => wp_block (h F hF hM)
theorem G.exit {id : Nat} {b : Code} {Q' : Exit → Act → World → Prop} (hq : ∀ a w, b.wp P Q' a w → Q (.exit id) a w) (h : G P b Q' n M w) : G P (.exit id) Q n M w := fun F hF hM => wp_exit (hq _ _ (h F hF hM))
theorem G.cond {c : Operand} {x y : Code} {b : Bool} (hc : evM M c = some (.bool b)) (hx : b = true → G P x Q n M w) (hy : b = false → G P y Q n M w) : G P (.cond c x y) Q n M w := by
  intro F hF hM
  refine wp_cond (evM_fits hM hc) ?_
  cases b
  · exact hy rfl F hF hM
  · exact hx rfl F hF hM
theorem G.yes {c : Operand} {x y : Code} (hc : evM M c = some (.bool true)) (hx : G P x Q n M w) : G P (.cond c x y) Q n M w := G.cond hc (fun _ => hx) (fun h => by cases h)
theorem G.no {c : Operand} {x y : Code} (hc : evM M c = some (.bool false)) (hy : G P y Q n M w) : G P (.cond c x y) Q n M w := G.cond hc (fun h => by cases h) (fun _ => hy)
theorem G.ret (h : ∀ F : Array Value, F.size = n → Fits F M → Q .ret ⟨F, []⟩ w) : G P .ret Q n M w := fun F hF hM => wp_ret (h F hF hM)
def Again (n : Nat) {X : Type} (Mx : X → FM) (J : X → World → Prop) (μ : X → Nat) (x : X) : Act → World → Prop :=
  fun a w => ∃ x', μ x' < μ x ∧ J x' w ∧ ∃ F : Array Value, a = ⟨F, []⟩ ∧ F.size = n ∧ Fits F (Mx x')
theorem G.loop {X : Type} {c : Code} (Mx : X → FM) (J : X → World → Prop) (μ : X → Nat) (x0 : X) (ts : List Nat) (hM : pick ts M = some (Mx x0)) (hJ : J x0 w)
    (hstep : ∀ x w, J x w → G P c (Exit.then (Again n Mx J μ x) Q) n (Mx x) w) : G P (.loop c) Q n M w := by
  have key : ∀ m x w, μ x ≤ m → J x w → ∀ F : Array Value, F.size = n → Fits F (Mx x) → Code.rounds P c Q (m + 1) ⟨F, []⟩ w := by
    intro m
    induction m with
    | zero =>
      intro x w hm hx F hF hFit
      rw [rounds_succ]
      refine wp_mono (hstep x w hx F hF hFit) ?_
      intro e a' w' hq
      cases e with
      | normal =>
        obtain ⟨x', hlt, _⟩ := hq
        omega
      | _ => exact hq
    | succ m ih =>
      intro x w hm hx F hF hFit
      rw [rounds_succ]
      refine wp_mono (hstep x w hx F hF hFit) ?_
      intro e a' w' hq
      cases e with
      | normal =>
        obtain ⟨x', hlt, hJ', F', rfl, hF', hfit'⟩ := hq
        exact ih x' w' (by omega) hJ' F' hF' hfit'
      | _ => exact hq
  intro F hF hFit
  exact wp_loop_rounds _ (key (μ x0) x0 w (Nat.le_refl _) hJ F hF (hFit.pick hM))
theorem GL.again {X : Type} {Mx : X → FM} {J : X → World → Prop} {μ : X → Nat} {x : X} {Q : Exit → Act → World → Prop} (x' : X) (ts : List Nat) (hi : Nat.ble ops.size i = true) (hp : pick ts M = some (Mx x')) (hμ : μ x' < μ x) (hJ : J x' w) :
    GL P ops (Exit.then (Again n Mx J μ x) Q) i n M w :=
  GL.done hi fun F hF hM => ⟨x', hμ, hJ, F, rfl, hF, hM.pick hp⟩
theorem G.unroll {c : Code} (k : Nat) (h : G P c (Exit.then (Code.rounds P c Q k) Q) n M w) : G P (.loop c) Q n M w := fun F hF hM => wp_loop_rounds (k + 1) (h F hF hM)
theorem GL.round {c : Code} {Q : Exit → Act → World → Prop} {k : Nat} (hi : Nat.ble ops.size i = true) (h : G P c (Exit.then (Code.rounds P c Q k) Q) n M w) : GL P ops (Exit.then (Code.rounds P c Q (k + 1)) Q) i n M w :=
  GL.done hi fun F hF hM => h F hF hM
def argsM : Nat → List Value → FM
  | _, [] => []
  | k, v :: r => (k, v) :: argsM (k + 1) r
theorem fits_args (args : List Value) (m : Nat) : ∀ (l : List Value) (k : Nat), (∀ j, l[j]? = args[k + j]? ∨ l.length ≤ j) → Fits (args.toArray ++ Array.replicate m undef) (argsM k l)
  | [], k, _ => by intro p hp; simp [argsM] at hp
  | v :: r, k, h => by
    intro p hp
    rcases List.mem_cons.1 hp with rfl | hp
    · have h0 := (h 0).resolve_right (by simp)
      simp only [List.getElem?_cons_zero, Nat.add_zero] at h0
      have hk : k < args.length := by
        rcases Nat.lt_or_ge k args.length with h1 | h1
        · exact h1
        · rw [List.getElem?_eq_none h1] at h0; cases h0
      show (args.toArray ++ Array.replicate m undef)[k]? = some v
      rw [Array.getElem?_append_left (by simpa using hk)]
      simpa using h0.symm
    · refine fits_args args m r (k + 1) (fun j => ?_) p hp
      rcases h (j + 1) with h1 | h1
      · left
        rw [List.getElem?_cons_succ] at h1
        rw [h1]
        congr 1
        omega
      · right
        simp at h1
        omega
theorem calls_G {f : FuncId} {fn : Func} {c : Code} {args : List Value} {R : Ending → World → Prop} (hf : P.funcs[f]? = some fn) (hb : fn.body = some c) (hn : fn.ntmps = n) (hl : Nat.ble args.length n = true)
    (h : ∀ Q : Exit → Act → World → Prop, (∀ a w, bodyPost P fn R .ret a w → Q .ret a w) → (∀ a w, bodyPost P fn R .ret a w → Q .normal a w) → (∀ c (a : Act) d v w, Q (.panic c) (a.put d v) w → Q (.panic c) a w) → G P c Q n (argsM 0 args) w) : Calls P f args.toArray w R := by
  refine calls_of_wp hf hb ?_
  refine h (bodyPost P fn R) (fun _ _ h => h) (fun _ _ h => h) (fun c a d v w h => by cases d <;> exact h) _ ?_ ?_
  · have := Nat.le_of_ble_eq_true hl
    simp [hn]; omega
  · exact fits_args args _ args 0 (fun j => by left; simp)
end
end Go.Proofs.YtgbhiklengafiaaDoor
namespace Go.Proofs.YtgbhiklengafiaaDoor
open Go.RowKit
inductive Ent where
  | blk (b : Nat) (cs : List Value) (t : TypeId)
  | row (A : Option Addr) (n c : Nat) (e : TypeId) (sz : Nat) (xs : List Value)
  | obj (k : Nat) (o : Obj)
  | bag (Bs : List (Option Addr × Nat × Nat × TypeId × List Value))
  | que (A : Option Addr) (n c : Nat) (e : TypeId) (xs : List Value)
def Ent.ids : Ent → List Nat
  | .blk b _ _ => [b]
  | .row A _ _ _ _ _ => (A.map (·.block)).toList
  | .obj k _ => [k]
  | .bag Bs => Bs.flatMap fun p => (p.1.map (·.block)).toList
  | .que A _ _ _ _ => (A.map (·.block)).toList
def Blk (w : World) (b : Nat) (cs : List Value) (t : TypeId) : Prop :=
  ∃ lo hi, w.heap[b]? = some (.cells cs.toArray t (lo, hi)) ∧ (lo = hi ∨ cs.length ≤ lo)
def QueH (w : World) (A : Option Addr) (n c : Nat) (e : TypeId) (xs : List Value) : Prop :=
  (A = none ∧ n = 0 ∧ c = 0 ∧ xs = []) ∨ ∃ b o cs, A = some ⟨b, o, none⟩ ∧ Blk w b cs e ∧ o + c ≤ cs.length ∧ n ≤ c ∧ c ≤ maxLen ∧ xs = (cs.drop o).take n
def Ent.holds (w : World) : Ent → Prop
  | .blk b cs t => Blk w b cs t
  | .row A n c e sz xs => w.ownsRow 0 e sz (.slice A n c) n xs
  | .obj k o => w.heap[k]? = some o
  | .bag Bs => ∀ p, p ∈ Bs → w.ownsRow 0 p.2.2.2.1 1 (.slice p.1 p.2.1 p.2.2.1) p.2.1 p.2.2.2.2
  | .que A n c e xs => QueH w A n c e xs
def ids (L : List Ent) : List Nat := L.flatMap Ent.ids
theorem ids_cons (e : Ent) (L : List Ent) : ids (e :: L) = e.ids ++ ids L := by simp [ids]
theorem ids_append (L M : List Ent) : ids (L ++ M) = ids L ++ ids M := by simp [ids]
structure Hp (w0 : World) (S : List Nat) (L : List Ent) (w : World) : Prop where
  os : w.os = w0.os
  tape : w.tape = w0.tape
  output : w.output = w0.output
  size : w0.heap.size ≤ w.heap.size
  keep : ∀ k, k < w0.heap.size → k ∉ S → w.heap[k]? = w0.heap[k]?
  ents : ∀ e, e ∈ L → e.holds w
  old : ∀ k, k ∈ ids L → w0.heap.size ≤ k ∨ k ∈ S
  nd : (ids L).Nodup
section
variable {P : Program} {w0 w w' : World} {S : List Nat} {L : List Ent}
theorem Blk.cell {b : Nat} {cs : List Value} {t : TypeId} (h : Blk w b cs t) (o : Nat) : w.cell? ⟨b, o, none⟩ = cs[o]? := by
  obtain ⟨lo, hi, hb, _⟩ := h
  simp [World.cell?, hb]
theorem Blk.frozen {b : Nat} {cs : List Value} {t : TypeId} (h : Blk w b cs t) {o : Nat} (ho : o < cs.length) : w.frozen? ⟨b, o, none⟩ = false := by
  obtain ⟨lo, hi, hb, hf⟩ := h
  simp only [World.frozen?, hb]
  have : ¬ (lo ≤ o ∧ o < hi) := by omega
  simpa using this
theorem Blk.lt {b : Nat} {cs : List Value} {t : TypeId} (h : Blk w b cs t) : b < w.heap.size := by
  obtain ⟨lo, hi, hb, _⟩ := h
  exact (Array.getElem?_eq_some_iff.1 hb).1
theorem Blk.same {b : Nat} {cs : List Value} {t : TypeId} (h : Blk w b cs t) (hb : w'.heap[b]? = w.heap[b]?) : Blk w' b cs t := by
  obtain ⟨lo, hi, h1, h2⟩ := h
  exact ⟨lo, hi, hb.trans h1, h2⟩
theorem Blk.new (w : World) (cs : List Value) (t : TypeId) : Blk (w.alloc (.cells cs.toArray t)) w.heap.size cs t :=
  ⟨0, 0, heap_alloc_new w _, .inl rfl⟩
theorem Blk.set_ {b : Nat} {cs : List Value} {t : TypeId} (h : Blk w b cs t) (o : Nat) (v : Value) : Blk (w.setCell ⟨b, o, none⟩ v) b (cs.set o v) t := by
  obtain ⟨lo, hi, h1, h2⟩ := h
  refine ⟨lo, hi, ?_, by simpa using h2⟩
  simp [World.setCell, Array.getElem?_modify, h1]
theorem row_lt {A : Option Addr} {n c e sz : Nat} {xs : List Value} {b0 : Nat} (h : w.ownsRow b0 e sz (.slice A n c) n xs) : ∀ k ∈ (A.map (·.block)).toList, k < w.heap.size := by
  intro k hk
  rcases h.2 with ⟨h0, _⟩ | ⟨g, cap, cur, hv, _, hh, _⟩
  · injection h0 with hA
    subst hA
    simp at hk
  · injection hv with hA
    subst hA
    simp at hk
    subst hk
    exact (Array.getElem?_eq_some_iff.1 hh).1
theorem row_same {A : Option Addr} {n c e sz : Nat} {xs : List Value} {b0 : Nat} (h : w.ownsRow b0 e sz (.slice A n c) n xs) (hs : ∀ k ∈ (A.map (·.block)).toList, w'.heap[k]? = w.heap[k]?) :
    w'.ownsRow b0 e sz (.slice A n c) n xs := by
  refine ⟨h.1, ?_⟩
  rcases h.2 with h0 | ⟨g, cap, cur, hv, hg, hh, hr⟩
  · exact .inl h0
  · refine .inr ⟨g, cap, cur, hv, hg, (hs g ?_).trans hh, hr⟩
    injection hv with hA
    subst hA
    simp
theorem que_lt {A : Option Addr} {n c e : Nat} {xs : List Value} (h : QueH w A n c e xs) : ∀ k ∈ (A.map (·.block)).toList, k < w.heap.size := by
  intro k hk
  rcases h with ⟨h0, _⟩ | ⟨b, o, cs, hA, hb, _⟩
  · subst h0
    simp at hk
  · subst hA
    simp at hk
    subst hk
    exact hb.lt
theorem que_same {A : Option Addr} {n c e : Nat} {xs : List Value} (h : QueH w A n c e xs) (hs : ∀ k ∈ (A.map (·.block)).toList, w'.heap[k]? = w.heap[k]?) : QueH w' A n c e xs := by
  rcases h with h0 | ⟨b, o, cs, hA, hb, hr⟩
  · exact .inl h0
  · refine .inr ⟨b, o, cs, hA, hb.same (hs b ?_), hr⟩
    subst hA
    simp
theorem Ent.lt {e : Ent} (h : e.holds w) : ∀ k ∈ e.ids, k < w.heap.size := by
  intro k hk
  cases e with
  | blk b cs t =>
    simp [Ent.ids] at hk
    subst hk
    exact Blk.lt h
  | row A n c e sz xs => exact row_lt h k hk
  | obj j o =>
    simp [Ent.ids] at hk
    subst hk
    exact (Array.getElem?_eq_some_iff.1 h).1
  | bag Bs =>
    obtain ⟨p, hp, hk⟩ := List.mem_flatMap.1 hk
    exact row_lt (h p hp) k hk
  | que A n c e xs => exact que_lt h k hk
theorem Ent.same {e : Ent} (h : e.holds w) (hs : ∀ k ∈ e.ids, w'.heap[k]? = w.heap[k]?) : e.holds w' := by
  cases e with
  | blk b cs t => exact Blk.same h (hs b (by simp [Ent.ids]))
  | row A n c e sz xs => exact row_same h hs
  | obj j o => exact (hs j (by simp [Ent.ids])).trans h
  | bag Bs => exact fun p hp => row_same (h p hp) fun k hk => hs k (List.mem_flatMap.2 ⟨p, hp, hk⟩)
  | que A n c e xs => exact que_same h hs
theorem ids_mem {e : Ent} (he : e ∈ L) {k : Nat} (hk : k ∈ e.ids) : k ∈ ids L := List.mem_flatMap.2 ⟨e, he, hk⟩
theorem Hp.start (w : World) : Hp w [] [] w := ⟨rfl, rfl, rfl, Nat.le_refl _, fun _ _ _ => rfl, fun e he => by simp at he, fun k hk => by simp [ids] at hk, by simp [ids]⟩
theorem Hp.lt (H : Hp w0 S L w) : ∀ k ∈ ids L, k < w.heap.size := by
  intro k hk
  obtain ⟨e, he, hk'⟩ := List.mem_flatMap.1 hk
  exact Ent.lt (H.ents e he) k hk'
theorem Hp.below (H : Hp w0 [] L w) : Below w0.heap.size w0 w := ⟨H.os, H.tape, H.output, H.size, fun k hk => H.keep k hk (by simp)⟩
theorem Hp.step (H : Hp w0 S L w) (hb : Below w.heap.size w w') : Hp w0 S L w' :=
  ⟨hb.os.trans H.os, hb.tape.trans H.tape, hb.output.trans H.output, Nat.le_trans H.size hb.size,
   fun k hk hs => (hb.block k (Nat.lt_of_lt_of_le hk H.size)).trans (H.keep k hk hs),
   fun e he => Ent.same (H.ents e he) (fun k hk => hb.block k (Ent.lt (H.ents e he) k hk)), H.old, H.nd⟩
theorem Hp.drew (H : Hp w0 S L w) : Hp w0 S L { w with drawn := w.drawn + 1 } := H.step (Below.refl _ _).drew
theorem nodup_sub {L L' : List Ent} (h : L'.Sublist L) (hn : (ids L).Nodup) : (ids L').Nodup := by
  have : (ids L').Sublist (ids L) := by
    induction h with
    | slnil => simp
    | cons e _ ih => rw [ids_cons]; exact (ih (by rw [ids_cons] at hn; exact (List.nodup_append.1 hn).2.1)).trans (List.sublist_append_right _ _)
    | cons_cons e _ ih => rw [ids_cons, ids_cons]; exact List.Sublist.append_left (ih (by rw [ids_cons] at hn; exact (List.nodup_append.1 hn).2.1)) _
  exact hn.sublist this
theorem Hp.sub {L' : List Ent} (H : Hp w0 S L w) (h : L'.Sublist L) : Hp w0 S L' w :=
  ⟨H.os, H.tape, H.output, H.size, H.keep, fun e he => H.ents e (h.subset he),
   fun k hk => by
     obtain ⟨e, he, hk'⟩ := List.mem_flatMap.1 hk
     exact H.old k (ids_mem (h.subset he) hk'),
   nodup_sub h H.nd⟩
theorem Hp.callNew {L' : List Ent} (H : Hp w0 S L w) (H' : Hp w [] L' w') : Hp w0 S (L ++ L') w' := by
  have H1 := H.step H'.below
  refine ⟨H1.os, H1.tape, H1.output, H1.size, H1.keep, ?_, ?_, ?_⟩
  · intro e he
    rcases List.mem_append.1 he with he | he
    · exact H1.ents e he
    · exact H'.ents e he
  · intro k hk
    rw [ids_append] at hk
    rcases List.mem_append.1 hk with hk | hk
    · exact H1.old k hk
    · rcases H'.old k hk with h | h
      · exact .inl (Nat.le_trans H.size h)
      · simp at h
  · rw [ids_append]
    refine List.nodup_append.2 ⟨H1.nd, H'.nd, ?_⟩
    intro a ha b hb hab
    subst hab
    have h1 := H.lt a ha
    rcases H'.old a hb with h | h
    · omega
    · simp at h
theorem Hp.callNil (H : Hp w0 S L w) (H' : Hp w [] [] w') : Hp w0 S L w' := by
  have := H.callNew H'
  simpa using this
theorem Hp.blkAt (H : Hp w0 S L w) (i : Nat) {b : Nat} {cs : List Value} {t : TypeId} (hL : L[i]? = some (.blk b cs t)) : Blk w b cs t := H.ents _ (List.mem_of_getElem? hL)
theorem Hp.rowAt (H : Hp w0 S L w) (i : Nat) {A : Option Addr} {n c e sz : Nat} {xs : List Value} (hL : L[i]? = some (.row A n c e sz xs)) : w.ownsRow 0 e sz (.slice A n c) n xs := H.ents _ (List.mem_of_getElem? hL)
theorem Hp.oldCell (H : Hp w0 [] L w) {a : Addr} {v : Value} (h : w0.cell? a = some v) : w.cell? a = some v := by
  have hlt : a.block < w0.heap.size := block_lt_of_cell h
  rw [World.cell?_of_block (w := w0) (H.keep a.block hlt (by simp))]
  exact h
def scal (P : Program) (ty : TypeId) : Bool :=
  match P.underlying ty, P.info? ty with
  | some (.struct _), _ => false
  | some (.array _ _), _ => false
  | some _, some i => i.size == 1
  | _, _ => false
def aggSz (P : Program) (ty : TypeId) : Option Nat :=
  match P.underlying ty, P.info? ty with
  | some (.struct _), some i => some i.size
  | some (.array _ _), some i => some i.size
  | _, _ => none
theorem run_isAgg_scal {ty : TypeId} (h : scal P ty = true) (w : World) : (isAgg ty).run P w = .ok false w := by
  unfold scal at h
  cases hu : P.underlying ty with
  | none => simp [hu] at h
  | some d =>
    unfold isAgg
    rw [Sem.run_bind, run_underlying hu w]
    cases d <;> simp_all
theorem run_isAgg_agg {ty m : TypeId} (h : aggSz P ty = some m) (w : World) : (isAgg ty).run P w = .ok true w := by
  unfold aggSz at h
  cases hu : P.underlying ty with
  | none => simp [hu] at h
  | some d =>
    unfold isAgg
    rw [Sem.run_bind, run_underlying hu w]
    cases d <;> simp_all
theorem run_sizeOf_agg {ty m : TypeId} (h : aggSz P ty = some m) (w : World) : (sizeOf ty).run P w = .ok m w := by
  unfold aggSz at h
  cases hi : P.info? ty with
  | none => simp only [hi] at h; split at h <;> simp_all
  | some i =>
    simp only [hi] at h
    have : i.size = m := by split at h <;> simp_all
    simp [sizeOf, typeInfo, hi, this]
theorem run_sizeOf_scal {ty : TypeId} (h : scal P ty = true) (w : World) : (sizeOf ty).run P w = .ok 1 w := by
  unfold scal at h
  cases hi : P.info? ty with
  | none => simp only [hi] at h; split at h <;> simp_all
  | some i =>
    simp only [hi] at h
    have : i.size = 1 := by split at h <;> simp_all
    simp [sizeOf, typeInfo, hi, this]
theorem run_ld1 {ty : TypeId} {a : Addr} {v : Value} (hs : scal P ty = true) (hc : w.cell? a = some v) : (Instr.loadAt ty (.pointer (some a))).run P w = .ok v w := by
  simp [Instr.loadAt, Instr.sureAddr, loadVar, run_isAgg_scal hs, hc]
theorem run_ldA {ty m : TypeId} {b o : Nat} {cs sub : List Value} {t : TypeId} (hs : aggSz P ty = some m) (hb : Blk w b cs t) (hsub : (cs.drop o).take m = sub) (hl : sub.length = m) :
    (Instr.loadAt ty (.pointer (some ⟨b, o, none⟩))).run P w = .ok (.agg sub.toArray) w := by
  have h1 : (loadCells ⟨b, o, none⟩ sub.length).run P w = .ok sub.toArray w := by
    refine run_loadCells_list (P := P) w ⟨b, o, none⟩ sub (fun j v hv => ?_)
    have hadd : (⟨b, o, none⟩ : Addr).add j = ⟨b, o + j, none⟩ := by unfold Addr.add; split <;> simp_all
    rw [hadd, hb.cell, ← hv, ← hsub]
    have hj : j < m := by
      rw [← hl]
      exact (List.getElem?_eq_some_iff.1 hv).1
    rw [List.getElem?_take_of_lt hj, List.getElem?_drop]
  rw [hl] at h1
  simp [Instr.loadAt, Instr.sureAddr, loadVar, run_isAgg_agg hs, run_sizeOf_agg hs, h1]
theorem Hp.ld (H : Hp w0 S L w) (i : Nat) {b o : Nat} {cs : List Value} {t ty : TypeId} {v : Value} (hL : L[i]? = some (.blk b cs t)) (hs : scal P ty = true) (hv : cs[o]? = some v) :
    (Instr.loadAt ty (.pointer (some ⟨b, o, none⟩))).run P w = .ok v w := run_ld1 hs (by rw [(H.blkAt i hL).cell]; exact hv)
theorem Hp.ldA (H : Hp w0 S L w) (i : Nat) {b o : Nat} {cs sub : List Value} {t ty m : TypeId} (hL : L[i]? = some (.blk b cs t)) (hs : aggSz P ty = some m) (hsub : (cs.drop o).take m = sub) (hl : sub.length = m) :
    (Instr.loadAt ty (.pointer (some ⟨b, o, none⟩))).run P w = .ok (.agg sub.toArray) w := run_ldA hs (H.blkAt i hL) hsub hl
theorem ids_set {i : Nat} {e e' : Ent} (hL : L[i]? = some e) (he : e'.ids = e.ids) : ids (L.set i e') = ids L := by
  induction L generalizing i with
  | nil => simp at hL
  | cons x r ih =>
    cases i with
    | zero =>
      simp at hL
      subst hL
      simp [ids_cons, he]
    | succ i =>
      simp only [List.set_cons_succ, ids_cons]
      rw [ih (by simpa using hL)]
theorem other_ids {i j : Nat} {e x : Ent} (hn : (ids L).Nodup) (hi : L[i]? = some e) (hj : L[j]? = some x) (hne : i ≠ j) {k : Nat} (hk : k ∈ e.ids) : k ∉ x.ids := by
  induction L generalizing i j with
  | nil => simp at hi
  | cons y r ih =>
    rw [ids_cons] at hn
    obtain ⟨_, hn2, hn3⟩ := List.nodup_append.1 hn
    cases i with
    | zero =>
      simp at hi
      subst hi
      cases j with
      | zero => omega
      | succ j =>
        intro hkx
        have hx : x ∈ r := List.mem_of_getElem? (by simpa using hj)
        exact hn3 k hk k (ids_mem hx hkx) rfl
    | succ i =>
      cases j with
      | zero =>
        simp at hj
        subst hj
        intro hkx
        have he : e ∈ r := List.mem_of_getElem? (by simpa using hi)
        exact hn3 k hkx k (ids_mem he hk) rfl
      | succ j => exact ih hn2 (by simpa using hi) (by simpa using hj) (by omega)
theorem Hp.turn (H : Hp w0 S L w) (i : Nat) {e e' : Ent} (hL : L[i]? = some e) (he : e'.ids = e.ids) (h' : e'.holds w') (hos : w'.os = w.os) (htape : w'.tape = w.tape) (hout : w'.output = w.output)
    (hsz : w.heap.size ≤ w'.heap.size) (hk : ∀ k, k < w.heap.size → k ∉ e.ids → w'.heap[k]? = w.heap[k]?) : Hp w0 S (L.set i e') w' := by
  refine ⟨hos.trans H.os, htape.trans H.tape, hout.trans H.output, Nat.le_trans H.size hsz, ?_, ?_, ?_, ?_⟩
  · intro k hk0 hS
    refine (hk k (Nat.lt_of_lt_of_le hk0 H.size) (fun hin => ?_)).trans (H.keep k hk0 hS)
    rcases H.old k (ids_mem (List.mem_of_getElem? hL) hin) with h | h
    · omega
    · exact hS h
  · intro x hx
    obtain ⟨j, hj⟩ := List.getElem?_of_mem hx
    by_cases hij : i = j
    · subst hij
      have hi : i < L.length := (List.getElem?_eq_some_iff.1 hL).1
      rw [List.getElem?_set_self hi] at hj
      injection hj with hj
      subst hj
      exact h'
    · rw [List.getElem?_set_ne hij] at hj
      have hxx := H.ents x (List.mem_of_getElem? hj)
      refine Ent.same hxx (fun k hkx => hk k (Ent.lt hxx k hkx) (fun hke => ?_))
      exact other_ids H.nd hL hj hij hke hkx
  · intro k hk
    rw [ids_set hL he] at hk
    exact H.old k hk
  · rw [ids_set hL he]
    exact H.nd
theorem Hp.setCell (H : Hp w0 S L w) (i : Nat) {b : Nat} {cs : List Value} {t : TypeId} (hL : L[i]? = some (.blk b cs t)) (o : Nat) (v : Value) : Hp w0 S (L.set i (.blk b (cs.set o v) t)) (w.setCell ⟨b, o, none⟩ v) :=
  H.turn i hL rfl ((H.blkAt i hL).set_ o v) rfl rfl rfl (by simp [World.setCell]) (fun k _ hk => Below.heap_setCell w _ v k (by simpa [Ent.ids] using hk))
theorem Hp.st (H : Hp w0 S L w) (i : Nat) {b o : Nat} {cs : List Value} {t ty : TypeId} {v : Value} (hL : L[i]? = some (.blk b cs t)) (hs : scal P ty = true) (ho : o < cs.length) (h1 : v.oneCell' = true) :
    ∃ w', (Instr.storeAt ty (.pointer (some ⟨b, o, none⟩)) v).run P w = .ok () w' ∧ Hp w0 S (L.set i (.blk b (cs.set o v) t)) w' := by
  refine ⟨_, ?_, H.setCell i hL o v⟩
  have hcl : v.cells = #[v] := by cases v <;> simp_all [Value.cells, Value.oneCell']
  have hc : w.cell? ⟨b, o, none⟩ = some cs[o] := by
    rw [(H.blkAt i hL).cell]
    simp [ho]
  have hadd : (⟨b, o, none⟩ : Addr).add 0 = ⟨b, o, none⟩ := rfl
  simp [Instr.storeAt, Instr.sureAddr, storeVar, run_sizeOf_scal hs, hcl, storeCells, hadd, run_store P w _ v _ h1, hc, (H.blkAt i hL).frozen ho]
theorem set_splice (cs : List Value) (o : Nat) (v : Value) (rest : List Value) (h : o < cs.length) :
    (cs.set o v).take (o + 1) ++ rest ++ (cs.set o v).drop (o + 1 + rest.length) = cs.take o ++ (v :: rest) ++ cs.drop (o + (v :: rest).length) := by
  have h1 : (cs.set o v).take (o + 1) = cs.take o ++ [v] := by
    rw [List.take_add_one, List.take_set_of_le (Nat.le_refl _)]
    simp [h]
  rw [h1, List.drop_set_of_lt (by omega)]
  simp [Nat.add_comm, Nat.add_left_comm]
theorem Hp.stCells (i : Nat) {b : Nat} {t : TypeId} (o : Nat) : ∀ (vs : List Value) (j : Nat) (L : List Ent) (w : World) (cs : List Value), Hp w0 S L w → L[i]? = some (.blk b cs t) → o + j + vs.length ≤ cs.length → (∀ v ∈ vs, v.oneCell' = true) →
    ∃ w', (storeCells ⟨b, o, none⟩ vs j).run P w = .ok () w' ∧ Hp w0 S (L.set i (.blk b (cs.take (o + j) ++ vs ++ cs.drop (o + j + vs.length)) t)) w'
  | [], j, L, w, cs, H, hL, _, _ => by
    refine ⟨w, rfl, ?_⟩
    have hi : i < L.length := (List.getElem?_eq_some_iff.1 hL).1
    have : L.set i (.blk b (cs.take (o + j) ++ [] ++ cs.drop (o + j + ([] : List Value).length)) t) = L := by
      simp only [List.append_nil, List.length_nil, Nat.add_zero, List.take_append_drop]
      refine List.ext_getElem? (fun k => ?_)
      by_cases hk : i = k
      · subst hk
        rw [List.getElem?_set_self hi, hL]
      · rw [List.getElem?_set_ne hk]
    rw [this]
    exact H
  | v :: vs, j, L, w, cs, H, hL, hlen, h1 => by
    have hoj : o + j < cs.length := by simp at hlen; omega
    have hadd : (⟨b, o, none⟩ : Addr).add j = ⟨b, o + j, none⟩ := by unfold Addr.add; split <;> simp_all
    have hc : w.cell? ⟨b, o + j, none⟩ = some cs[o + j] := by
      rw [(H.blkAt i hL).cell]
      simp [hoj]
    have hst : (store ((⟨b, o, none⟩ : Addr).add j) v).run P w = .ok () (w.setCell ⟨b, o + j, none⟩ v) := by
      rw [hadd, run_store P w _ v _ (h1 v (by simp)), hc]
      simp [(H.blkAt i hL).frozen hoj]
    have hi : i < L.length := (List.getElem?_eq_some_iff.1 hL).1
    obtain ⟨w', hr, H'⟩ := Hp.stCells i (b := b) (t := t) o vs (j + 1) _ _ (cs.set (o + j) v) (H.setCell i hL (o + j) v) (List.getElem?_set_self hi) (by simp at hlen ⊢; omega) (fun x hx => h1 x (by simp [hx]))
    refine ⟨w', ?_, ?_⟩
    · simp only [storeCells, Sem.run_bind, hst, Result.andThen_ok, hr]
    · rw [List.set_set, ← Nat.add_assoc, set_splice cs (o + j) v vs hoj] at H'
      exact H'
theorem Hp.stA (H : Hp w0 S L w) (i : Nat) {b o : Nat} {cs vs : List Value} {t ty m : TypeId} (hL : L[i]? = some (.blk b cs t)) (hs : aggSz P ty = some m) (hm : vs.length = m) (ho : o + m ≤ cs.length) (h1 : ∀ v ∈ vs, v.oneCell' = true) :
    ∃ w', (Instr.storeAt ty (.pointer (some ⟨b, o, none⟩)) (.agg vs.toArray)).run P w = .ok () w' ∧ Hp w0 S (L.set i (.blk b (cs.take o ++ vs ++ cs.drop (o + m)) t)) w' := by
  obtain ⟨w', hr, H'⟩ := Hp.stCells (P := P) i (b := b) (t := t) o vs 0 L w cs H hL (by omega) h1
  refine ⟨w', ?_, by simpa [hm] using H'⟩
  simp [Instr.storeAt, Instr.sureAddr, storeVar, run_sizeOf_agg hs, Value.cells, hm, hr]
theorem Hp.new (H : Hp w0 S L w) (cs : List Value) (t : TypeId) : Hp w0 S (L ++ [.blk w.heap.size cs t]) (w.alloc (.cells cs.toArray t)) := by
  refine H.callNew (L' := [.blk w.heap.size cs t]) ⟨rfl, rfl, rfl, by simp, fun k hk _ => heap_alloc_old w _ hk, ?_, ?_, by simp [ids, Ent.ids]⟩
  · intro e he
    simp at he
    subst he
    exact Blk.new w cs t
  · intro k hk
    simp [ids, Ent.ids] at hk
    omega
theorem Hp.box (H : Hp w0 S L w) (t : TypeId) (cs : List Value) (v : Value) (hv : v.cells = cs.toArray) :
    ∃ b w', (Instr.box t v).run P w = .ok (.pointer (some ⟨b, 0, none⟩)) w' ∧ Hp w0 S (L ++ [.blk b cs t]) w' :=
  ⟨w.heap.size, _, by simp [Instr.box, newVar, newRow, newObj, hv, Sem.run], H.new cs t⟩
def zeroOf (P : Program) (t : TypeId) : Option (List Value) := ((P.info? t).bind (·.zero)).map (·.cells.toList)
theorem Hp.alloc (H : Hp w0 S L w) (t : TypeId) (cs : List Value) (hz : zeroOf P t = some cs) :
    ∃ b w', (Instr.alloc t true (.tuple #[])).run P w = .ok (.pointer (some ⟨b, 0, none⟩)) w' ∧ Hp w0 S (L ++ [.blk b cs t]) w' := by
  refine ⟨w.heap.size, _, ?_, H.new cs t⟩
  unfold zeroOf at hz
  cases hi : P.info? t with
  | none => simp [hi] at hz
  | some i =>
    cases hzz : i.zero with
    | none => simp [hi, hzz] at hz
    | some z =>
      simp [hi, hzz] at hz
      have hzc : z.cells = cs.toArray := by rw [← hz]
      simp [Instr.alloc, zeroValue, typeInfo, hi, hzz, newVar, newRow, newObj, hzc, Sem.run]
end
end Go.Proofs.YtgbhiklengafiaaDoor
namespace Go.Proofs.YtgbhiklengafiaaDoor
open Go.RowKit
def semAt (ops : Array Oper) (M : FM) (i : Nat) : Option (Sem Next) :=
  match ops[i]? with
  | none => none
  | some o => match gdM ops M o with
    | some true => if known M o then some (execOp (evD M) o) else none
    | _ => none
def dstAt (ops : Array Oper) (i : Nat) : Option Nat := (ops[i]?).bind (·.dst)
def vN (s : Sem Value) : Sem Next := do pure (.value (← s))
def uN (s : Sem Unit) : Sem Next := do s; pure .skip
section
variable {P : Program} {ops : Array Oper} {Q : Exit → Act → World → Prop} {i n : Nat} {M M' : FM} {w w' : World}
theorem semAt_spec {s : Sem Next} (h : semAt ops M i = some s) : ∃ o, ops[i]? = some o ∧ gdM ops M o = some true ∧ known M o = true ∧ execOp (evD M) o = s ∧ dstAt ops i = o.dst := by
  unfold semAt at h
  split at h
  · cases h
  · rename_i o ho
    split at h
    · rename_i hg
      split at h
      · rename_i hk
        injection h with h
        exact ⟨o, ho, hg, hk, h, by simp [dstAt, ho]⟩
      · cases h
    · cases h
theorem putM_bind {d : Option Nat} {v : Value} {ts : List Nat} (hp : (putM n M d v).bind (pick ts) = some M') : ∃ M1, putM n M d v = some M1 ∧ pick ts M1 = some M' := by
  cases h : putM n M d v with
  | none => rw [h] at hp; cases hp
  | some M1 => rw [h] at hp; exact ⟨M1, rfl, hp⟩
theorem GL.semN {s : Sem Next} {v : Value} (hr : s.run P w = .ok (.value v) w') (ts : List Nat) (M' : FM) (hs : semAt ops M i = some s) (hp : (putM n M (dstAt ops i) v).bind (pick ts) = some M')
    {j : Nat} (hj : i + 1 = j) (h : GL P ops Q j n M' w') : GL P ops Q i n M w := by
  subst hj
  obtain ⟨o, ho, hg, hk, he, hd⟩ := semAt_spec hs
  obtain ⟨M1, h1, h2⟩ := putM_bind hp
  rw [hd] at h1
  exact GL.step ho hg (fun F hF hM => by rw [known_exec hM hk, he]; exact hr) h1 (GL.fit h2 h)
theorem GL.sem {s : Sem Value} {v : Value} (hr : s.run P w = .ok v w') (ts : List Nat) (M' : FM) (hs : semAt ops M i = some (vN s)) (hp : (putM n M (dstAt ops i) v).bind (pick ts) = some M')
    {j : Nat} (hj : i + 1 = j) (h : GL P ops Q j n M' w') : GL P ops Q i n M w :=
  GL.semN (by simp [vN, hr]) ts M' hs hp hj h
theorem GL.semU {s : Sem Unit} (hr : s.run P w = .ok () w') (ts : List Nat) (M' : FM) (hs : semAt ops M i = some (uN s)) (hd : dstAt ops i = none) (hp : pick ts M = some M')
    {j : Nat} (hj : i + 1 = j) (h : GL P ops Q j n M' w') : GL P ops Q i n M w := by
  subst hj
  obtain ⟨o, ho, hg, hk, he, hd'⟩ := semAt_spec hs
  rw [hd] at hd'
  intro F hF hM
  rw [drop_at ho]
  refine wpList_step fun K hK => ?_
  rw [gdM_fits hM hg, if_pos rfl]
  unfold Oper.wp
  rw [known_exec hM hk, he]
  have : (uN s).run P w = .ok .skip w' := by simp [uN, hr]
  rw [this]
  show K _ _
  rw [← hd']
  exact hK _ _ (h F hF (hM.pick hp))
theorem GL.call {f : FuncId} {args : Array Value} {R : Ending → World → Prop} (hc : Calls P f args w R) (hs : (semAt ops M i).bind (pev P) = some (.enter f args)) {j : Nat} (hj : i + 1 = j)
    (h : ∀ e w', R e w' → ∃ v, e = .returned v ∧ ∃ ts M', (putM n M (dstAt ops i) v).bind (pick ts) = some M' ∧ GL P ops Q j n M' w') : GL P ops Q i n M w := by
  subst hj
  cases hsm : semAt ops M i with
  | none => rw [hsm] at hs; cases hs
  | some s =>
    rw [hsm] at hs
    obtain ⟨o, ho, hg, hk, he, hd⟩ := semAt_spec hsm
    intro F hF hM
    rw [drop_at ho]
    refine wpList_step fun K hK => ?_
    rw [gdM_fits hM hg, if_pos rfl]
    unfold Oper.wp
    rw [known_exec hM hk, he, pev_run hs w]
    show Calls P f args w _
    refine hc.mono fun e w' hR => ?_
    obtain ⟨v, rfl, ts, M', hp, hG⟩ := h e w' hR
    obtain ⟨M1, h1, h2⟩ := putM_bind hp
    rw [hd] at h1
    have hp' := hM.put (d := o.dst) (v := v) (M' := M1) (by rw [hF]; exact h1)
    show K _ _
    rw [hp'.2.2]
    exact hK _ _ (hG _ (by rw [hp'.2.1, hF]) (hp'.1.pick h2))
def GQ (P : Program) (ops : Array Oper) (C : World → Prop) (Qa : Act → Prop) (i n : Nat) (M : FM) : Prop :=
  ∀ F : Array Value, F.size = n → Fits F M → wpQuiet P ops C Qa (ops.toList.drop i) ⟨F, []⟩
section
variable {C : World → Prop} {Qa : Act → Prop}
theorem GQ.step {o : Oper} {v : Value} (ho : ops[i]? = some o) (hg : gdM ops M o = some true) (hy : ∀ F : Array Value, F.size = n → Fits F M → ∀ w, C w → o.quietAt P ⟨F, []⟩ C w v)
    (hp : putM n M o.dst v = some M') (h : GQ P ops C Qa (i + 1) n M') : GQ P ops C Qa i n M := by
  intro F hF hM
  rw [drop_at ho]
  refine wpQuiet_step fun K hK => ?_
  rw [gdM_fits hM hg, if_pos rfl]
  have hp' := hM.put (d := o.dst) (v := v) (M' := M') (by rw [hF]; exact hp)
  refine ⟨v, hy F hF hM, ?_⟩
  rw [hp'.2.2]
  exact hK _ (h _ (by rw [hp'.2.1, hF]) hp'.1)
theorem GQ.skip_ {o : Oper} (ho : ops[i]? = some o) (hg : gdM ops M o = some false) (hp : putM n M o.dst undef = some M') (h : GQ P ops C Qa (i + 1) n M') : GQ P ops C Qa i n M := by
  intro F hF hM
  rw [drop_at ho]
  refine wpQuiet_step fun K hK => ?_
  rw [gdM_fits hM hg]
  simp only [Bool.false_eq_true, if_false]
  have hp' := hM.put (d := o.dst) (v := undef) (M' := M') (by rw [hF]; exact hp)
  rw [hp'.2.2]
  exact hK _ (h _ (by rw [hp'.2.1, hF]) hp'.1)
theorem GQ.batch_ : ∀ {k i : Nat} {M M' : FM}, batch P ops n k i M = some M' → GQ P ops C Qa (i + k) n M' → GQ P ops C Qa i n M
  | 0, i, M, M', hb, h => by
    simp [batch] at hb
    subst hb
    exact h
  | k + 1, i, M, M', hb, h => by
    have h' : GQ P ops C Qa (i + 1 + k) n M' := by rwa [show i + 1 + k = i + (k + 1) from by omega]
    unfold batch at hb
    split at hb
    · cases hb
    · rename_i o ho
      split at hb
      · cases hb
      · rename_i hg
        split at hb
        · rename_i M1 hp
          exact GQ.skip_ ho hg hp (GQ.batch_ hb h')
        · cases hb
      · rename_i hg
        split at hb
        · rename_i hk
          split at hb
          · rename_i v hv
            split at hb
            · rename_i M1 hp
              refine GQ.step ho hg (fun F hF hM w _ => ?_) hp (GQ.batch_ hb h')
              unfold Oper.quietAt
              rw [known_exec hM hk]
              unfold opPev at hv
              split at hv
              · rename_i u hu
                injection hv with hv
                subst hv
                rw [pev_run hu w]
                exact ⟨rfl, rfl⟩
              · cases hv
            · cases hb
          · cases hb
        · cases hb
theorem GQ.fit {ts : List Nat} (hp : pick ts M = some M') (h : GQ P ops C Qa i n M') : GQ P ops C Qa i n M := fun F hF hM => h F hF (hM.pick hp)
theorem GQ.run (k : Nat) (ts : List Nat) (M' : FM) {j : Nat} (hb : (batch P ops n k i M).bind (pick ts) = some M') (hj : i + k = j) (h : GQ P ops C Qa j n M') : GQ P ops C Qa i n M := by
  subst hj
  cases hm : batch P ops n k i M with
  | none => rw [hm] at hb; cases hb
  | some M1 =>
    rw [hm] at hb
    exact GQ.batch_ hm (GQ.fit hb h)
theorem GQ.eq {M' : FM} (he : M = M') (h : GQ P ops C Qa i n M') : GQ P ops C Qa i n M := he ▸ h
theorem GQ.semN {s : Sem Next} {v : Value} (hr : ∀ w, C w → s.run P w = .ok (.value v) w) (ts : List Nat) (M' : FM) (hs : semAt ops M i = some s) (hp : (putM n M (dstAt ops i) v).bind (pick ts) = some M')
    {j : Nat} (hj : i + 1 = j) (h : GQ P ops C Qa j n M') : GQ P ops C Qa i n M := by
  subst hj
  obtain ⟨o, ho, hg, hk, he, hd⟩ := semAt_spec hs
  obtain ⟨M1, h1, h2⟩ := putM_bind hp
  rw [hd] at h1
  refine GQ.step ho hg (fun F hF hM w hw => ?_) h1 (GQ.fit h2 h)
  unfold Oper.quietAt
  rw [known_exec hM hk, he, hr w hw]
  exact ⟨rfl, rfl⟩
theorem GQ.sem {s : Sem Value} {v : Value} (hr : ∀ w, C w → s.run P w = .ok v w) (ts : List Nat) (M' : FM) (hs : semAt ops M i = some (vN s)) (hp : (putM n M (dstAt ops i) v).bind (pick ts) = some M')
    {j : Nat} (hj : i + 1 = j) (h : GQ P ops C Qa j n M') : GQ P ops C Qa i n M :=
  GQ.semN (fun w hw => by simp [vN, hr w hw]) ts M' hs hp hj h
theorem GQ.call {f : FuncId} {args : Array Value} {v : Value} (hc : ∀ w, C w → Calls P f args w fun e w' => e = .returned v ∧ C w') (ts : List Nat) (M' : FM) (hs : (semAt ops M i).bind (pev P) = some (.enter f args))
    (hp : (putM n M (dstAt ops i) v).bind (pick ts) = some M') {j : Nat} (hj : i + 1 = j) (h : GQ P ops C Qa j n M') : GQ P ops C Qa i n M := by
  subst hj
  cases hsm : semAt ops M i with
  | none => rw [hsm] at hs; cases hs
  | some s =>
    rw [hsm] at hs
    obtain ⟨o, ho, hg, hk, he, hd⟩ := semAt_spec hsm
    obtain ⟨M1, h1, h2⟩ := putM_bind hp
    rw [hd] at h1
    refine GQ.step ho hg (fun F hF hM w hw => ?_) h1 (GQ.fit h2 h)
    unfold Oper.quietAt
    rw [known_exec hM hk, he, pev_run hs w]
    exact ⟨rfl, hc w hw⟩
theorem GQ.done (hi : Nat.ble ops.size i = true) (h : ∀ F : Array Value, F.size = n → Fits F M → Qa ⟨F, []⟩) : GQ P ops C Qa i n M := by
  intro F hF hM
  rw [List.drop_eq_nil_of_le (by simpa using Nat.le_of_ble_eq_true hi)]
  exact wpQuiet_nil (h F hF hM)
end
theorem G.draw {id : Nat} {w0 : World} {S : List Nat} {L : List Ent} (H : Hp w0 S L w) (hm : P.follows .mixedOrders = true) (hB : Region.lexB .any ops = true)
    (h : GQ P ops (Hp w0 S L) (fun a' => ∀ w', Hp w0 S L w' → Q .normal a' w') 0 n M) : G P (.region id ops true) Q n M w := fun F hF hM =>
  wp_region_quiet hm hB H.drew (by simpa using h F hF hM)
def GS (P : Program) (ops : Array Oper) (w : World) (Qa : Act → Prop) (k : Nat) (i n : Nat) (M : FM) : Prop :=
  ∀ F : Array Value, F.size = n → Fits F M → wpStill P ops w Qa ((ops.toList.take k).drop i) ⟨F, []⟩
section
variable {Qa : Act → Prop} {k : Nat}
theorem take_at {o : Oper} (ho : ops[i]? = some o) (hk : Nat.blt i k = true) : (ops.toList.take k).drop i = o :: (ops.toList.take k).drop (i + 1) := by
  have hlt : i < k := by simpa [Nat.blt_eq] using hk
  have h : (ops.toList.take k)[i]? = some o := by
    rw [List.getElem?_take_of_lt hlt]
    simpa using ho
  have hl : i < (ops.toList.take k).length := (List.getElem?_eq_some_iff.1 h).1
  rw [List.drop_eq_getElem_cons hl]
  congr 1
  exact (List.getElem?_eq_some_iff.1 h).2
theorem GS.step {o : Oper} {v : Value} (ho : ops[i]? = some o) (hk : Nat.blt i k = true) (hg : gdM ops M o = some true) (hy : ∀ F : Array Value, F.size = n → Fits F M → (execOp (⟨F, []⟩ : Act).eval o).run P w = .ok (.value v) w)
    (hp : putM n M o.dst v = some M') (h : GS P ops w Qa k (i + 1) n M') : GS P ops w Qa k i n M := by
  intro F hF hM
  rw [take_at ho hk]
  refine wpStill_step fun K hK => ?_
  rw [gdM_fits hM hg, if_pos rfl]
  have hp' := hM.put (d := o.dst) (v := v) (M' := M') (by rw [hF]; exact hp)
  unfold Oper.still
  rw [hy F hF hM]
  refine ⟨rfl, ?_⟩
  rw [hp'.2.2]
  exact hK _ (h _ (by rw [hp'.2.1, hF]) hp'.1)
theorem GS.skip_ {o : Oper} (ho : ops[i]? = some o) (hk : Nat.blt i k = true) (hg : gdM ops M o = some false) (hp : putM n M o.dst undef = some M') (h : GS P ops w Qa k (i + 1) n M') : GS P ops w Qa k i n M := by
  intro F hF hM
  rw [take_at ho hk]
  refine wpStill_step fun K hK => ?_
  rw [gdM_fits hM hg]
  simp only [Bool.false_eq_true, if_false]
  have hp' := hM.put (d := o.dst) (v := undef) (M' := M') (by rw [hF]; exact hp)
  rw [hp'.2.2]
  exact hK _ (h _ (by rw [hp'.2.1, hF]) hp'.1)
theorem GS.batch_ : ∀ {m i : Nat} {M M' : FM}, batch P ops n m i M = some M' → i + m ≤ k → GS P ops w Qa k (i + m) n M' → GS P ops w Qa k i n M
  | 0, i, M, M', hb, _, h => by
    simp [batch] at hb
    subst hb
    exact h
  | m + 1, i, M, M', hb, hk, h => by
    have h' : GS P ops w Qa k (i + 1 + m) n M' := by rwa [show i + 1 + m = i + (m + 1) from by omega]
    have hik : Nat.blt i k = true := by simp [Nat.blt_eq]; omega
    unfold batch at hb
    split at hb
    · cases hb
    · rename_i o ho
      split at hb
      · cases hb
      · rename_i hg
        split at hb
        · rename_i M1 hp
          exact GS.skip_ ho hik hg hp (GS.batch_ hb (by omega) h')
        · cases hb
      · rename_i hg
        split at hb
        · rename_i hkn
          split at hb
          · rename_i v hv
            split at hb
            · rename_i M1 hp
              refine GS.step ho hik hg (fun F hF hM => ?_) hp (GS.batch_ hb (by omega) h')
              rw [known_exec hM hkn]
              unfold opPev at hv
              split at hv
              · rename_i u hu
                injection hv with hv
                subst hv
                exact pev_run hu w
              · cases hv
            · cases hb
          · cases hb
        · cases hb
theorem GS.fit {ts : List Nat} (hp : pick ts M = some M') (h : GS P ops w Qa k i n M') : GS P ops w Qa k i n M := fun F hF hM => h F hF (hM.pick hp)
theorem GS.run (m : Nat) (ts : List Nat) (M' : FM) {j : Nat} (hb : (batch P ops n m i M).bind (pick ts) = some M') (hj : i + m = j) (hk : Nat.ble j k = true) (h : GS P ops w Qa k j n M') : GS P ops w Qa k i n M := by
  subst hj
  cases hm : batch P ops n m i M with
  | none => rw [hm] at hb; cases hb
  | some M1 =>
    rw [hm] at hb
    exact GS.batch_ hm (Nat.le_of_ble_eq_true hk) (GS.fit hb h)
theorem GS.eq {M' : FM} (he : M = M') (h : GS P ops w Qa k i n M') : GS P ops w Qa k i n M := he ▸ h
theorem GS.semN {s : Sem Next} {v : Value} (hr : s.run P w = .ok (.value v) w) (ts : List Nat) (M' : FM) (hs : semAt ops M i = some s) (hp : (putM n M (dstAt ops i) v).bind (pick ts) = some M')
    {j : Nat} (hj : i + 1 = j) (hk : Nat.ble j k = true) (h : GS P ops w Qa k j n M') : GS P ops w Qa k i n M := by
  subst hj
  obtain ⟨o, ho, hg, hkn, he, hd⟩ := semAt_spec hs
  obtain ⟨M1, h1, h2⟩ := putM_bind hp
  rw [hd] at h1
  have hlt := Nat.le_of_ble_eq_true hk
  exact GS.step ho (by simp [Nat.blt_eq]; omega) hg (fun F hF hM => by rw [known_exec hM hkn, he]; exact hr) h1 (GS.fit h2 h)
theorem GS.sem {s : Sem Value} {v : Value} (hr : s.run P w = .ok v w) (ts : List Nat) (M' : FM) (hs : semAt ops M i = some (vN s)) (hp : (putM n M (dstAt ops i) v).bind (pick ts) = some M')
    {j : Nat} (hj : i + 1 = j) (hk : Nat.ble j k = true) (h : GS P ops w Qa k j n M') : GS P ops w Qa k i n M :=
  GS.semN (by simp [vN, hr]) ts M' hs hp hj hk h
theorem GS.tail (hi : i = k) (h : GL P ops Q k n M w) : GS P ops w (fun a' => wpList P ops Q (ops.toList.drop k) a' w) k i n M := by
  subst hi
  intro F hF hM
  have : (ops.toList.take i).drop i = [] := List.drop_eq_nil_of_le (by simp; omega)
  rw [this]
  exact wpStill_nil (h F hF hM)
end
theorem G.tail {id : Nat} (k : Nat) (hm : P.follows .mixedOrders = true) (hB : Region.lexTailB .any ops k = true)
    (h : GS P ops { w with drawn := w.drawn + 1 } (fun a' => wpList P ops Q (ops.toList.drop k) a' { w with drawn := w.drawn + 1 }) k 0 n M) : G P (.region id ops true) Q n M w := fun F hF hM => by
  have := wp_region_still_tail (P := P) (Q := Q) (id := id) (l := ops.toList) k hm (by simpa using hB) (by simpa using h F hF hM)
  simpa using this
end
end Go.Proofs.YtgbhiklengafiaaDoor
namespace Go.Proofs.YtgbhiklengafiaaDoor
open Go.RowKit
section
variable {P : Program} {n : Nat} {M : FM} {w w' : World}
def RV (P : Program) (M : FM) (w : World) : ResultVar → Value → Prop
  | .tmp t, v => lk M t = some v
  | .cell a ty, v => ∃ ad, lk M a = some (.pointer (some ad)) ∧ (Instr.loadAt ty (.pointer (some ad))).run P w = .ok v w
theorem RV.tmp {t : Nat} {v : Value} (h : lk M t = some v) : RV P M w (.tmp t) v := h
theorem RV.cell {a ty : Nat} {ad : Addr} {v : Value} (h1 : lk M a = some (.pointer (some ad))) (h2 : (Instr.loadAt ty (.pointer (some ad))).run P w = .ok v w) : RV P M w (.cell a ty) v := ⟨ad, h1, h2⟩
def resOf (F : Array Value) : ResultVar → Sem Value
  | .tmp t => pure (F.getD t undef)
  | .cell a t => do loadVar t (← asAddr (F.getD a undef))
theorem RV.run {r : ResultVar} {v : Value} {F : Array Value} (hM : Fits F M) (h : RV P M w r v) : (resOf F r).run P w = .ok v w := by
  cases r with
  | tmp t =>
    have := hM.lk h
    simp [resOf, this]
  | cell a ty =>
    obtain ⟨ad, h1, h2⟩ := h
    have := hM.lk h1
    simp only [Instr.loadAt, Instr.sureAddr, Sem.run_bind, Sem.run_pure, Result.andThen_ok] at h2
    simp [resOf, this, asAddr, h2]
theorem results_resOf (fn : Func) (F : Array Value) : results fn F = (do
    let vs ← fn.results.mapM (resOf F)
    pure (if h : vs.size = 1 then vs[0] else .tuple vs)) := by
  unfold results
  congr 1
theorem run_mapM1 {α : Type} {f : α → Sem Value} {r : α} {v : Value} (h1 : (f r).run P w = .ok v w) : (#[r].mapM f).run P w = .ok #[v] w := by simp [h1]
theorem run_mapM2 {α : Type} {f : α → Sem Value} {r s : α} {v x : Value} (h1 : (f r).run P w = .ok v w) (h2 : (f s).run P w = .ok x w) : (#[r, s].mapM f).run P w = .ok #[v, x] w := by simp [h1, h2]
theorem run_mapM3 {α : Type} {f : α → Sem Value} {r s t : α} {v x y : Value} (h1 : (f r).run P w = .ok v w) (h2 : (f s).run P w = .ok x w) (h3 : (f t).run P w = .ok y w) : (#[r, s, t].mapM f).run P w = .ok #[v, x, y] w := by simp [h1, h2, h3]
theorem bodyPost_1 {fn : Func} {R : Ending → World → Prop} {r : ResultVar} {v : Value} (hr : fn.results = #[r]) (hv : RV P M w r v) (h : R (.returned v) w) :
    ∀ F : Array Value, F.size = n → Fits F M → bodyPost P fn R .ret ⟨F, []⟩ w := fun F _ hM =>
  ⟨rfl, v, by rw [results_resOf, hr]; simp only [Sem.run_bind, run_mapM1 (hv.run hM), Result.andThen_ok]; rfl, h⟩
theorem bodyPost_2 {fn : Func} {R : Ending → World → Prop} {r s : ResultVar} {v x : Value} (hr : fn.results = #[r, s]) (hv : RV P M w r v) (hx : RV P M w s x) (h : R (.returned (.tuple #[v, x])) w) :
    ∀ F : Array Value, F.size = n → Fits F M → bodyPost P fn R .ret ⟨F, []⟩ w := fun F _ hM =>
  ⟨rfl, .tuple #[v, x], by rw [results_resOf, hr]; simp only [Sem.run_bind, run_mapM2 (hv.run hM) (hx.run hM), Result.andThen_ok]; rfl, h⟩
theorem bodyPost_3 {fn : Func} {R : Ending → World → Prop} {r s t : ResultVar} {v x y : Value} (hr : fn.results = #[r, s, t]) (hv : RV P M w r v) (hx : RV P M w s x) (hy : RV P M w t y) (h : R (.returned (.tuple #[v, x, y])) w) :
    ∀ F : Array Value, F.size = n → Fits F M → bodyPost P fn R .ret ⟨F, []⟩ w := fun F _ hM =>
  ⟨rfl, .tuple #[v, x, y], by rw [results_resOf, hr]; simp only [Sem.run_bind, run_mapM3 (hv.run hM) (hx.run hM) (hy.run hM), Result.andThen_ok]; rfl, h⟩
theorem GL.k {ops : Array Oper} {Q Q' : Exit → Act → World → Prop} {K : Act → World → Prop} {b : Code} {i : Nat} (hi : Nat.ble ops.size i = true) (hK : ∀ a w, b.wp P Q' a w → K a w) (hq : ∀ a w, K a w → Q .normal a w)
    (h : G P b Q' n M w) : GL P ops Q i n M w := GL.done hi fun F hF hM => hq _ _ (hK _ _ (h F hF hM))
theorem G.skipK {Q Q' : Exit → Act → World → Prop} {K : Act → World → Prop} {b : Code} (hK : ∀ a w, b.wp P Q' a w → K a w) (hq : ∀ a w, K a w → Q .normal a w)
    (h : G P b Q' n M w) : G P .skip Q n M w := fun F hF hM => wp_skip (hq _ _ (hK _ _ (h F hF hM)))
theorem G.exitK {Q Q' : Exit → Act → World → Prop} {K : Act → World → Prop} {b : Code} {id : Nat} (hK : ∀ a w, b.wp P Q' a w → K a w) (hq : ∀ a w, K a w → Q (.exit id) a w)
    (h : G P b Q' n M w) : G P (.exit id) Q n M w := fun F hF hM => wp_exit (hq _ _ (hK _ _ (h F hF hM)))
theorem G.seqK {Q : Exit → Act → World → Prop} {a b : Code} (h : ∀ K : Act → World → Prop, (∀ a w, b.wp P Q a w → K a w) → G P a (Exit.then K Q) n M w) : G P (.seq a b) Q n M w := fun F hF hM =>
  wp_seq_k fun K hK => h K hK F hF hM
theorem GQ.k {ops : Array Oper} {C : World → Prop} {Q Q' : Exit → Act → World → Prop} {K : Act → World → Prop} {b : Code} {i : Nat} (hi : Nat.ble ops.size i = true) (hK : ∀ a w, b.wp P Q' a w → K a w) (hq : ∀ a w, K a w → Q .normal a w)
    (h : ∀ w, C w → G P b Q' n M w) : GQ P ops C (fun a' => ∀ w', C w' → Q .normal a' w') i n M := GQ.done hi fun F hF hM w hw => hq _ _ (hK _ _ (h w hw F hF hM))
def arrOf (P : Program) (t : TypeId) : Option (Nat × Nat) :=
  match P.underlying t with
  | some (.array len e) => (P.info? e).map fun i => (len, i.size)
  | _ => none
def slcOf (P : Program) (t : TypeId) : Option Nat :=
  match P.underlying t with
  | some (.slice e) => (P.info? e).map (·.size)
  | _ => none
theorem arrOf_spec {t len sz : Nat} (h : arrOf P t = some (len, sz)) : ∃ e, P.underlying t = some (.array len e) ∧ ∀ w, (sizeOf e).run P w = .ok sz w := by
  unfold arrOf at h
  split at h
  · rename_i l e hu
    cases hi : P.info? e with
    | none => simp [hi] at h
    | some i =>
      simp [hi] at h
      exact ⟨e, by rw [hu, h.1], fun w => by simp [sizeOf, typeInfo, hi, h.2]⟩
  · cases h
theorem slcOf_spec {t sz : Nat} (h : slcOf P t = some sz) : ∃ e, P.underlying t = some (.slice e) ∧ ∀ w, (sizeOf e).run P w = .ok sz w := by
  unfold slcOf at h
  split at h
  · rename_i e hu
    cases hi : P.info? e with
    | none => simp [hi] at h
    | some i =>
      simp [hi] at h
      exact ⟨e, hu, fun w => by simp [sizeOf, typeInfo, hi, h]⟩
  · cases h
theorem addr_add (b o j : Nat) : (⟨b, o, none⟩ : Addr).add j = ⟨b, o + j, none⟩ := by unfold Addr.add; split <;> simp_all
theorem run_idxArr {t len sz b o : Nat} {k : IntKind} {i : Int} {j : Nat} (ht : arrOf P t = some (len, sz)) (hi : i = (j : Int)) (hj : j < len) :
    (Instr.indexAt t (.pointer (some ⟨b, o, none⟩)) (.int k i)).run P w = .ok (.pointer (some ⟨b, o + j * sz, none⟩)) w := by
  obtain ⟨e, hu, hs⟩ := arrOf_spec ht
  subst hi
  have h1 : (0 : Int) ≤ (j : Int) ∧ (j : Int) < (len : Int) := ⟨by omega, by omega⟩
  simp only [Instr.indexAt, asIntOf, Sem.run_bind, Sem.run_pure, Result.andThen_ok, run_underlying hu, Instr.sureAddr]
  rw [if_pos h1]
  simp [hs, addr_add]
theorem run_idxSl {t sz : Nat} {a : Addr} {len cap : Nat} {k : IntKind} {i : Int} {j : Nat} (ht : slcOf P t = some sz) (hi : i = (j : Int)) (hj : j < len) :
    (Instr.indexAt t (.slice (some a) len cap) (.int k i)).run P w = .ok (.pointer (some (a.add (j * sz)))) w := by
  obtain ⟨e, hu, hs⟩ := slcOf_spec ht
  subst hi
  have h1 : (0 : Int) ≤ (j : Int) ∧ (j : Int) < (len : Int) := ⟨by omega, by omega⟩
  simp only [Instr.indexAt, asIntOf, Sem.run_bind, Sem.run_pure, Result.andThen_ok, run_underlying hu]
  rw [if_pos h1]
  simp [hs]
theorem run_shl {op : BinOp} {k k' : IntKind} {x y : Int} {t : TypeId} (ho : op = .shl) (hy : 0 ≤ y) (w : World) : (binOp op t (.int k x) (.int k' y)).run P w = .ok (.int k (k.wrap (x * 2 ^ (min y.toNat k.bits)))) w := by
  subst ho
  have : ¬ y < 0 := by omega
  simp [binOp, Op.shift, this]
theorem run_shr {op : BinOp} {k k' : IntKind} {x y : Int} {t : TypeId} (ho : op = .shr) (hy : 0 ≤ y) (w : World) : (binOp op t (.int k x) (.int k' y)).run P w = .ok (.int k (x.fdiv (2 ^ (min y.toNat k.bits)))) w := by
  subst ho
  have : ¬ y < 0 := by omega
  simp [binOp, Op.shift, this]
theorem run_quo {k : IntKind} {x y : Int} {t : TypeId} (hy : y ≠ 0) (w : World) : (binOp .quo t (.int k x) (.int k y)).run P w = .ok (.int k (k.wrap (x.tdiv y))) w := by
  simp [binOp, Op.intDiv, hy]
theorem run_rem {k : IntKind} {x y : Int} {t : TypeId} (hy : y ≠ 0) (w : World) : (binOp .rem t (.int k x) (.int k y)).run P w = .ok (.int k (x.tmod y)) w := by
  simp [binOp, Op.intDiv, hy]
end
theorem in_i64 {x : Int} (h : -9223372036854775808 ≤ x ∧ x ≤ 9223372036854775807) : IntKind.i64.wrap x = x := by rw [IntKind.wrap_i64]; omega
theorem in_u64 {x : Int} (h : 0 ≤ x ∧ x ≤ 18446744073709551615) : IntKind.u64.wrap x = x := by rw [IntKind.wrap_u64]; omega
theorem in_u8 {x : Int} (h : 0 ≤ x ∧ x ≤ 255) : IntKind.u8.wrap x = x := by rw [IntKind.wrap_u8]; omega
end Go.Proofs.YtgbhiklengafiaaDoor
namespace Go.Proofs.YtgbhiklengafiaaDoor
open Go.RowKit
def lst (N : Nat) : Nat → Array Bool
  | 0 => Array.replicate N false
  | i + 1 => (lst N i).setIfInBounds i true
def GH (P : Program) (ops : Array Oper) (Q : Exit → Act → World → Prop) (S : World → Prop) (i n : Nat) (M : FM) (w : World) : Prop :=
  ∀ F : Array Value, F.size = n → Fits F M → ∀ fuel, fuel + i = ops.size → Region.lexFrom .any ops fuel i (lst ops.size i) = true → Region.noSelect ops = true →
    (∀ c (a : Act) d v w, Q (.panic c) (a.put d v) w → Q (.panic c) a w) → wpAnyH P .any ops Q S fuel (lst ops.size i) ⟨F, []⟩ w
section
variable {P : Program} {ops : Array Oper} {Q : Exit → Act → World → Prop} {S : World → Prop} {i n : Nat} {M M' : FM} {w w' : World}
theorem ops_lt {o : Oper} (ho : ops[i]? = some o) : i < ops.size := (Array.getElem?_eq_some_iff.1 ho).1
theorem GH.take {o : Oper} {v : Value} (hS : S w) (ho : ops[i]? = some o) (hy : ∀ F : Array Value, F.size = n → Fits F M → YieldsIf P ops S o v ⟨F, []⟩) (hp : putM n M o.dst v = some M')
    (h : GH P ops Q S (i + 1) n M' w) : GH P ops Q S i n M w := by
  intro F hF hM fuel hfuel hlex hsel hQ
  cases fuel with
  | zero => have := ops_lt ho; omega
  | succ fuel =>
    simp only [Region.lexFrom, Bool.and_eq_true] at hlex
    obtain ⟨⟨hr, hf⟩, hlex⟩ := hlex
    have hp' := hM.put (d := o.dst) (v := v) (M' := M') (by rw [hF]; exact hp)
    refine wpAnyH_take ho hsel hf hr (fun c a w h => hQ c a _ _ w h) (hy F hF hM) hS ?_
    rw [hp'.2.2]
    exact h _ (by rw [hp'.2.1, hF]) hp'.1 fuel (by omega) hlex hsel hQ
theorem GH.batch_ (hS : S w) : ∀ {k i : Nat} {M M' : FM}, batch P ops n k i M = some M' → GH P ops Q S (i + k) n M' w → GH P ops Q S i n M w
  | 0, i, M, M', hb, h => by
    simp [batch] at hb
    subst hb
    exact h
  | k + 1, i, M, M', hb, h => by
    have h' : GH P ops Q S (i + 1 + k) n M' w := by rwa [show i + 1 + k = i + (k + 1) from by omega]
    unfold batch at hb
    split at hb
    · cases hb
    · rename_i o ho
      split at hb
      · cases hb
      · rename_i hg
        split at hb
        · rename_i M1 hp
          exact GH.take hS ho (fun F hF hM => .inr ⟨gdM_fits hM hg, rfl⟩) hp (GH.batch_ hS hb h')
        · cases hb
      · rename_i hg
        split at hb
        · rename_i hk
          split at hb
          · rename_i v hv
            split at hb
            · rename_i M1 hp
              refine GH.take hS ho (fun F hF hM => .inl ⟨gdM_fits hM hg, fun w _ => ?_⟩) hp (GH.batch_ hS hb h')
              rw [known_exec hM hk]
              unfold opPev at hv
              split at hv
              · rename_i u hu
                injection hv with hv
                subst hv
                exact pev_run hu w
              · cases hv
            · cases hb
          · cases hb
        · cases hb
theorem GH.fit {ts : List Nat} (hp : pick ts M = some M') (h : GH P ops Q S i n M' w) : GH P ops Q S i n M w := fun F hF hM => h F hF (hM.pick hp)
theorem GH.run (k : Nat) (ts : List Nat) (M' : FM) {j : Nat} (hb : (batch P ops n k i M).bind (pick ts) = some M') (hj : i + k = j) (hS : S w) (h : GH P ops Q S j n M' w) : GH P ops Q S i n M w := by
  subst hj
  cases hm : batch P ops n k i M with
  | none => rw [hm] at hb; cases hb
  | some M1 =>
    rw [hm] at hb
    exact GH.batch_ hS hm (GH.fit hb h)
def Holds (L : List Ent) (w : World) : Prop := ∀ e, e ∈ L → e.holds w
theorem Hp.holds {w0 : World} {S0 : List Nat} {L L' : List Ent} (H : Hp w0 S0 L w) (h : ∀ e, e ∈ L' → e ∈ L) : Holds L' w := fun e he => H.ents e (h e he)
theorem Holds.ld {L : List Ent} (H : Holds L w) (i : Nat) {b o : Nat} {cs : List Value} {t ty : TypeId} {v : Value} (hL : L[i]? = some (.blk b cs t)) (hs : scal P ty = true) (hv : cs[o]? = some v) :
    (Instr.loadAt ty (.pointer (some ⟨b, o, none⟩))).run P w = .ok v w := run_ld1 hs (by rw [Blk.cell (t := t) (H _ (List.mem_of_getElem? hL))]; exact hv)
theorem Holds.ldA {L : List Ent} (H : Holds L w) (i : Nat) {b o : Nat} {cs sub : List Value} {t ty m : TypeId} (hL : L[i]? = some (.blk b cs t)) (hs : aggSz P ty = some m) (hsub : (cs.drop o).take m = sub) (hl : sub.length = m) :
    (Instr.loadAt ty (.pointer (some ⟨b, o, none⟩))).run P w = .ok (.agg sub.toArray) w := run_ldA hs (H _ (List.mem_of_getElem? hL)) hsub hl
end
end Go.Proofs.YtgbhiklengafiaaDoor
namespace Go.Proofs.YtgbhiklengafiaaDoor
open Go.RowKit
section
variable {P : Program} {w0 w w' : World} {S : List Nat} {L : List Ent}
def RdS (w : World) (A : Option Addr) (xs : List Value) : Prop := xs = [] ∨ ∃ a, A = some a ∧ a.block < w.heap.size ∧ ∀ j v, xs[j]? = some v → w.cell? (a.add j) = some v
theorem add_block (a : Addr) (n : Nat) : (a.add n).block = a.block := by unfold Addr.add; split <;> rfl
theorem add_add (a : Addr) (i j : Nat) : (a.add i).add j = a.add (i + j) := by
  unfold Addr.add
  by_cases hi : i = 0 <;> by_cases hj : j = 0 <;> simp [hi, hj, Nat.add_assoc]
theorem RdS.below {A : Option Addr} {xs : List Value} (h : RdS w A xs) (hb : Below w.heap.size w w') : RdS w' A xs := by
  rcases h with h | ⟨a, hA, ha, hc⟩
  · exact .inl h
  · exact .inr ⟨a, hA, Nat.lt_of_lt_of_le ha hb.size, fun j v hv => by rw [hb.cell (by rw [add_block]; exact ha)]; exact hc j v hv⟩
theorem RdS.hp {A : Option Addr} {xs : List Value} (h : RdS w0 A xs) (H : Hp w0 [] L w) : RdS w A xs := h.below H.below
theorem RdS.blk {b : Nat} {cs : List Value} {t : TypeId} (h : Blk w b cs t) (o n : Nat) {xs : List Value} (hx : (cs.drop o).take n = xs) : RdS w (some ⟨b, o, none⟩) xs := by
  refine .inr ⟨_, rfl, h.lt, fun j v hv => ?_⟩
  rw [addr_add, h.cell, ← hv, ← hx]
  have hj : j < n := by
    rw [← hx] at hv
    have := (List.getElem?_eq_some_iff.1 hv).1
    simp at this
    omega
  rw [List.getElem?_take_of_lt hj, List.getElem?_drop]
theorem RdS.row {A : Option Addr} {n c e : Nat} {xs : List Value} {b0 : Nat} (h : w.ownsRow b0 e 1 (.slice A n c) n xs) : RdS w A xs := by
  rcases h.2 with ⟨h0, hn⟩ | ⟨g, cap, cur, hv, _, hh, hnc, _, hsz, ht⟩
  · left
    have := h.1
    rw [hn] at this
    exact List.eq_nil_of_length_eq_zero (by simpa using this)
  · injection hv with hA
    subst hA
    refine .inr ⟨_, rfl, (Array.getElem?_eq_some_iff.1 hh).1, fun j v hv => ?_⟩
    rw [addr_add]
    have hj : j < n := by
      have := (List.getElem?_eq_some_iff.1 hv).1
      have := h.1
      omega
    rw [← ht, List.getElem?_take_of_lt (by omega)] at hv
    simp only [World.cell?, hh]
    simpa using hv
theorem Hp.rdRow (H : Hp w0 S L w) (i : Nat) {A : Option Addr} {n c e : Nat} {xs : List Value} (hL : L[i]? = some (.row A n c e 1 xs)) : RdS w A xs := RdS.row (H.rowAt i hL)
theorem RdS.cell {A : Option Addr} {xs : List Value} (h : RdS w A xs) {j : Nat} {v : Value} (hv : xs[j]? = some v) : ∃ a, A = some a ∧ w.cell? (a.add j) = some v := by
  rcases h with h | ⟨a, hA, _, hc⟩
  · subst h
    simp at hv
  · exact ⟨a, hA, hc j v hv⟩
theorem RdS.take {A : Option Addr} {xs : List Value} (h : RdS w A xs) (n : Nat) : RdS w A (xs.take n) := by
  rcases h with h | ⟨a, hA, ha, hc⟩
  · subst h
    exact .inl (by simp)
  · refine .inr ⟨a, hA, ha, fun j v hv => hc j v ?_⟩
    have := (List.getElem?_eq_some_iff.1 hv).1
    rwa [List.getElem?_take_of_lt (by simp at this; omega)] at hv
theorem RdS.drop {A : Option Addr} {xs : List Value} {cap : Nat} (h : RdS w A xs) (k : Nat) (hcap : xs.length ≤ cap) : RdS w (if cap = k then A else A.map (·.add k)) (xs.drop k) := by
  by_cases hk : xs.length ≤ k
  · exact .inl (List.drop_eq_nil_of_le hk)
  · rcases h with h | ⟨a, hA, ha, hc⟩
    · subst h
      simp at hk
    · rw [if_neg (by omega), hA]
      refine .inr ⟨_, rfl, by rw [add_block]; exact ha, fun j v hv => ?_⟩
      rw [add_add]
      exact hc _ _ (by rw [← hv, List.getElem?_drop])
theorem RdS.load {A : Option Addr} {xs : List Value} (h : RdS w A xs) {a : Addr} (hA : A = some a) : (loadCells a xs.length).run P w = .ok xs.toArray w := by
  refine run_loadCells_list (P := P) w a xs (fun j v hv => ?_)
  obtain ⟨a', ha', hc⟩ := h.cell hv
  rw [hA] at ha'
  injection ha' with ha'
  subst ha'
  exact hc
def by8 (bs : List UInt8) : List Value := bs.map fun b => .int .u8 (b.toNat : Int)
theorem by8_length (bs : List UInt8) : (by8 bs).length = bs.length := by simp [by8]
theorem by8_get (bs : List UInt8) (j : Nat) : (by8 bs)[j]? = (bs[j]?).map fun b => .int .u8 (b.toNat : Int) := by simp [by8]
def strOf (bs : List UInt8) : ByteArray := ⟨bs.toArray⟩
theorem strOf_toList (bs : List UInt8) : (strOf bs).toList = bs := by simp [strOf]
theorem strOf_size (bs : List UInt8) : (strOf bs).size = bs.length := by simp [strOf, ByteArray.size]
def isBytes (P : Program) (t : TypeId) : Bool :=
  match P.underlying t with
  | some (.slice e) => match P.underlying e with
    | some (.int .u8) => true
    | _ => false
  | _ => false
def isStr (P : Program) (t : TypeId) : Bool :=
  match P.underlying t with
  | some .string => true
  | _ => false
theorem isBytes_spec {t : TypeId} (h : isBytes P t = true) : ∃ e, P.underlying t = some (.slice e) ∧ P.underlying e = some (.int .u8) := by
  unfold isBytes at h
  split at h
  · rename_i e he
    split at h
    · exact ⟨e, he, by assumption⟩
    · cases h
  · cases h
theorem isStr_spec {t : TypeId} (h : isStr P t = true) : P.underlying t = some .string := by
  unfold isStr at h
  split at h
  · assumption
  · cases h
theorem foldl_push (l : List UInt8) : ∀ s : ByteArray, (l.map fun b => (b.toNat : Int)).foldl (fun r n => r.push (UInt8.ofNat n.toNat)) s = ⟨s.data ++ l.toArray⟩ := by
  induction l with
  | nil => intro s; simp
  | cons b l ih =>
    intro s
    simp only [List.map_cons, List.foldl_cons]
    rw [ih]
    have : (s.push (UInt8.ofNat ((b.toNat : Int)).toNat)).data = s.data.push b := by
      show s.data.push _ = _
      simp
    rw [this]
    simp
theorem run_toStr {src dst : TypeId} {A : Option Addr} {bs : List UInt8} {n c : Nat} (hs : isBytes P src = true) (hd : isStr P dst = true) (h : RdS w A (by8 bs)) (hn : n = bs.length) :
    (convert src dst (.slice A n c)).run P w = .ok (.string (strOf bs)) w := by
  obtain ⟨e, h1, h2⟩ := isBytes_spec hs
  rw [run_convert_bytes_string w src dst e A n c h1 h2 (isStr_spec hd)]
  subst hn
  cases A with
  | none =>
    rcases h with h | ⟨a, hA, _⟩
    · have : bs = [] := by simpa [by8] using h
      subst this
      rfl
    · cases hA
  | some a =>
    have hl := h.load (P := P) rfl
    rw [by8_length] at hl
    rw [run_bytesToString w a bs.length c (bs.map fun b => (b.toNat : Int)) (by rw [hl]; simp [by8, Function.comp_def]), foldl_push]
    have : ByteArray.empty.data = #[] := rfl
    rw [this]
    simp [strOf]
theorem run_str_eql {t : TypeId} (a b : List UInt8) (w : World) : (binOp .eql t (.string (strOf a)) (.string (strOf b))).run P w = .ok (.bool (a == b)) w := by
  simp [binOp, Op.stringOp, strOf_toList]
def nev {α : Type} (P : Program) : Sem α → Option (Obj × (Nat → Option α))
  | .new o k => some (o, fun r => pev P (k r))
  | .program k => nev P (k P)
  | .mark _ k => nev P k
  | _ => none
theorem nev_run {α : Type} : ∀ {s : Sem α} {o : Obj} {f : Nat → Option α}, nev P s = some (o, f) → ∀ (w : World) (a : α), f w.heap.size = some a → s.run P w = .ok a (w.alloc o) := by
  intro s
  induction s with
  | new o k _ => intro o' f h w a ha; simp only [nev, Option.some.injEq, Prod.mk.injEq] at h; obtain ⟨rfl, rfl⟩ := h; exact pev_run ha _
  | program k ih => intro o f h w a ha; simp only [nev] at h; simp only [Sem.run]; exact ih P h w a ha
  | mark m k ih => intro o f h w a ha; simp only [nev] at h; simp only [Sem.run]; exact ih h w a ha
  | _ => intro o f h; simp [nev] at h
theorem Hp.turnNew (H : Hp w0 S L w) (i : Nat) {e e' : Ent} (hL : L[i]? = some e) (he : ∀ k ∈ e'.ids, k ∈ e.ids ∨ w.heap.size ≤ k) (hn : e'.ids.Nodup) (h' : e'.holds w') (hos : w'.os = w.os) (htape : w'.tape = w.tape) (hout : w'.output = w.output)
    (hsz : w.heap.size ≤ w'.heap.size) (hk : ∀ k, k < w.heap.size → k ∉ e.ids → w'.heap[k]? = w.heap[k]?) : Hp w0 S (L.set i e') w' := by
  have hi : i < L.length := (List.getElem?_eq_some_iff.1 hL).1
  have hmem : ∀ k, k ∈ ids (L.set i e') → k ∈ ids L ∨ w.heap.size ≤ k := by
    intro k hk'
    obtain ⟨x, hx, hkx⟩ := List.mem_flatMap.1 hk'
    rcases List.mem_or_eq_of_mem_set hx with hx | rfl
    · exact .inl (ids_mem hx hkx)
    · rcases he k hkx with h | h
      · exact .inl (ids_mem (List.mem_of_getElem? hL) h)
      · exact .inr h
  refine ⟨hos.trans H.os, htape.trans H.tape, hout.trans H.output, Nat.le_trans H.size hsz, ?_, ?_, ?_, ?_⟩
  · intro k hk0 hS
    refine (hk k (Nat.lt_of_lt_of_le hk0 H.size) (fun hin => ?_)).trans (H.keep k hk0 hS)
    rcases H.old k (ids_mem (List.mem_of_getElem? hL) hin) with h | h
    · omega
    · exact hS h
  · intro x hx
    obtain ⟨j, hj⟩ := List.getElem?_of_mem hx
    by_cases hij : i = j
    · subst hij
      rw [List.getElem?_set_self hi] at hj
      injection hj with hj
      subst hj
      exact h'
    · rw [List.getElem?_set_ne hij] at hj
      have hxx := H.ents x (List.mem_of_getElem? hj)
      refine Ent.same hxx (fun k hkx => hk k (Ent.lt hxx k hkx) (fun hke => ?_))
      exact other_ids H.nd hL hj hij hke hkx
  · intro k hk'
    rcases hmem k hk' with h | h
    · exact H.old k h
    · exact .inl (Nat.le_trans H.size h)
  · have key : ∀ (L : List Ent) (i : Nat), L[i]? = some e → (ids L).Nodup → (∀ k ∈ ids L, k < w.heap.size) → (ids (L.set i e')).Nodup := by
      intro L
      induction L with
      | nil => intro i h; simp at h
      | cons x r ih =>
        intro i hL hnd hlt
        rw [ids_cons] at hnd
        obtain ⟨n1, n2, n3⟩ := List.nodup_append.1 hnd
        cases i with
        | zero =>
          simp at hL
          subst hL
          simp only [List.set_cons_zero, ids_cons]
          refine List.nodup_append.2 ⟨hn, n2, fun a ha b hb hab => ?_⟩
          subst hab
          rcases he a ha with h | h
          · exact n3 a h a hb rfl
          · have := hlt a (by rw [ids_cons]; exact List.mem_append_right _ hb)
            omega
        | succ i =>
          simp only [List.set_cons_succ, ids_cons]
          have hlr : ∀ k ∈ ids r, k < w.heap.size := fun k hk => hlt k (by rw [ids_cons]; exact List.mem_append_right _ hk)
          refine List.nodup_append.2 ⟨n1, ih i (by simpa using hL) n2 hlr, fun a ha b hb hab => ?_⟩
          subst hab
          obtain ⟨y, hy, hay⟩ := List.mem_flatMap.1 hb
          rcases List.mem_or_eq_of_mem_set hy with hy | rfl
          · exact n3 a ha a (ids_mem hy hay) rfl
          · rcases he a hay with h | h
            · exact n3 a ha a (ids_mem (List.mem_of_getElem? (by simpa using hL)) h) rfl
            · have := hlt a (by rw [ids_cons]; exact List.mem_append_left _ ha)
              omega
    exact key L i hL H.nd H.lt
def elOf (P : Program) (t : TypeId) : Option (Nat × Nat × Nat) :=
  match P.underlying t with
  | some (.slice e) => match P.info? e with
    | some i => match i.zero with
      | some z => if z.cells.size = i.size ∧ 0 < i.size then some (e, i.size, i.bytes) else none
      | none => none
    | none => none
  | _ => none
theorem elOf_spec {t e sz by_ : Nat} (h : elOf P t = some (e, sz, by_)) : ∃ i z, P.underlying t = some (.slice e) ∧ P.info? e = some i ∧ i.zero = some z ∧ i.size = sz ∧ i.bytes = by_ ∧ z.cells.size = sz ∧ 0 < sz := by
  unfold elOf at h
  split at h
  · rename_i e' he
    split at h
    · rename_i i hi
      split at h
      · rename_i z hz
        split at h
        · rename_i hc
          simp only [Option.some.injEq, Prod.mk.injEq] at h
          obtain ⟨rfl, rfl, rfl⟩ := h
          exact ⟨i, z, he, hi, hz, rfl, rfl, hc.1, hc.2⟩
        · cases h
      · cases h
    · cases h
  · cases h
theorem own_ids {A : Option Addr} {n c e sz : Nat} {xs : List Value} : (Ent.row A n c e sz xs).ids.Nodup := by cases A <;> simp [Ent.ids]
theorem row_shape {v : Value} {e sz n : Nat} {xs : List Value} (h : w.ownsRow 0 e sz v n xs) : ∃ A c, v = .slice A n c := by
  rcases h.2 with ⟨rfl, rfl⟩ | ⟨g, cap, cur, rfl, _⟩
  · exact ⟨none, 0, rfl⟩
  · exact ⟨_, cap, rfl⟩
theorem Hp.append (H : Hp w0 S L w) (i : Nat) {A B : Option Addr} {n c m d t ty e sz by_ : Nat} {xs news : List Value} (hL : L[i]? = some (.row A n c e sz xs)) (ht : elOf P t = some (e, sz, by_)) (hr : RdS w B news) (hm : news.length = m * sz)
    (h1 : ∀ u ∈ news, u.oneCell' = true) (hb : (n + m) * by_ ≤ 140737488355328) (h63 : n + m ≤ maxLen) :
    ∃ A' c' w', (Builtin.append_ #[t, t] ty #[.slice A n c, .slice B m d]).run P w = .ok (.slice A' (n + m) c') w' ∧ Hp w0 S (L.set i (.row A' (n + m) c' e sz (xs ++ news))) w' := by
  obtain ⟨inf, z, hu, hi, hz, hsz, hby, hzc, hpos⟩ := elOf_spec ht
  have hown := H.rowAt i hL
  by_cases hm0 : m = 0
  · have hnil : news = [] := List.eq_nil_of_length_eq_zero (by rw [hm, hm0, Nat.zero_mul])
    subst hnil hm0
    refine ⟨A, c, w, ?_, ?_⟩
    · have hle : n ≤ c := by
        rcases hown.2 with ⟨h0, hn⟩ | ⟨g, cap, cur, hv, _, _, hnc, _⟩
        · omega
        · injection hv with _ _ hc
          omega
      have hfc : ∀ B, (Builtin.firstCells inf.size 0 (.slice B 0 d)).run P w = .ok #[] w := by
        intro B
        cases B <;> simp [Builtin.firstCells, loadCells, loadCellsFrom]
      cases A <;> simp [Builtin.append_, run_underlying hu, sizeOf, typeInfo, hi, Builtin.lenOf, hle, hfc, storeCells]
    · have hLi : i < L.length := (List.getElem?_eq_some_iff.1 hL).1
      have : L.set i (.row A (n + 0) c e sz (xs ++ [])) = L := by
        refine List.ext_getElem? (fun k => ?_)
        by_cases hk : i = k
        · subst hk
          rw [List.getElem?_set_self hLi, hL]
          simp
        · rw [List.getElem?_set_ne hk]
      rw [this]
      exact H
  · have hne : news ≠ [] := by
      intro h0
      subst h0
      have h0 : m * sz = 0 := by rw [← hm]; rfl
      rcases Nat.mul_eq_zero.1 h0 with h | h <;> omega
    obtain ⟨a, rfl, ha, hc⟩ : ∃ a, B = some a ∧ a.block < w.heap.size ∧ ∀ j v, news[j]? = some v → w.cell? (a.add j) = some v := by
      rcases hr with h | h
      · exact absurd h hne
      · exact h
    obtain ⟨v', w', hrun, hown', hg, _, hat⟩ := run_append_own_at (P := P) w 0 t ty e inf z sz by_ hu hi hz hsz hby hzc hpos (.slice A n c) n xs hown a m d news hm (fun j u hu => hc j u hu) h1 h63 hb (Nat.zero_le _)
    obtain ⟨A', c', rfl⟩ := row_shape hown'
    refine ⟨A', c', w', hrun, H.turnNew i hL ?_ own_ids hown' hg.os hg.tape hg.output hg.size ?_⟩
    · intro k hk
      have hk' : (Value.slice A' (n + m) c').ownBlock = some k := by
        cases A' with
        | none => simp [Ent.ids] at hk
        | some a' => simp [Ent.ids] at hk; simp [Value.ownBlock, hk]
      rcases hat with hat | hat
      · rw [hat] at hk'
        left
        cases A with
        | none => simp [Value.ownBlock] at hk'
        | some a0 => simp [Value.ownBlock] at hk'; simp [Ent.ids, hk']
      · rw [hat] at hk'
        injection hk' with hk'
        right
        omega
    · intro k hk hke
      refine hg.block k hk (fun h => hke ?_)
      cases A with
      | none => simp [Value.ownBlock] at h
      | some a0 => simp [Value.ownBlock] at h; simp [Ent.ids, h]
theorem Hp.rowNil (H : Hp w0 S L w) (e sz : Nat) : Hp w0 S (L ++ [.row none 0 0 e sz []]) w := by
  refine ⟨H.os, H.tape, H.output, H.size, H.keep, ?_, ?_, ?_⟩
  · intro x hx
    rcases List.mem_append.1 hx with hx | hx
    · exact H.ents x hx
    · simp at hx
      subst hx
      exact World.ownsRow_nil _ _ _ _
  · intro k hk
    rw [ids_append] at hk
    rcases List.mem_append.1 hk with hk | hk
    · exact H.old k hk
    · simp [ids, Ent.ids] at hk
  · rw [ids_append]
    simpa [ids, Ent.ids] using H.nd
theorem Hp.blkRow {b : Nat} {cs : List Value} {t : TypeId} (H : Hp w0 S (L ++ [.blk b cs t]) w) (hfz : w.heap[b]? = some (.cells cs.toArray t (0, 0))) {n c sz : Nat} (hn : n ≤ c) (hc : c ≤ maxLen) (hsz : cs.length = c * sz) :
    Hp w0 S (L ++ [.row (some ⟨b, 0, none⟩) n c t sz (cs.take (n * sz))]) w := by
  refine ⟨H.os, H.tape, H.output, H.size, H.keep, ?_, ?_, ?_⟩
  · intro x hx
    rcases List.mem_append.1 hx with hx | hx
    · exact H.ents x (List.mem_append_left _ hx)
    · simp at hx
      subst hx
      refine ⟨?_, .inr ⟨b, c, cs.toArray, rfl, Nat.zero_le _, hfz, hn, hc, by simpa using hsz, by simp⟩⟩
      rw [List.length_take, hsz]
      exact Nat.min_eq_left (Nat.mul_le_mul_right _ hn)
  · intro k hk
    refine H.old k ?_
    rw [ids_append] at hk ⊢
    simpa [ids, Ent.ids] using hk
  · have := H.nd
    rw [ids_append] at this ⊢
    simpa [ids, Ent.ids] using this
end
section
variable {P : Program} {w : World}
theorem run_sliceSl {t len cap : Nat} {A : Option Addr} {lo hi : Option Value} {l h : Nat} (ht : slcOf P t = some 1) (hlo : (lo = none ∧ l = 0) ∨ ∃ k i, lo = some (.int k i) ∧ i = (l : Int)) (hhi : (hi = none ∧ h = len) ∨ ∃ k i, hi = some (.int k i) ∧ i = (h : Int))
    (hlh : l ≤ h) (hh : h ≤ cap) : (Instr.sliceAt t (.slice A len cap) lo hi none).run P w = .ok (.slice (if cap = l then A else A.map (·.add l)) (h - l) (cap - l)) w := by
  obtain ⟨e, hu, hs⟩ := slcOf_spec ht
  have hb : (Instr.sliceBounds true len cap lo hi none).run P w = .ok (l, h, cap) w := by
    have g1 : (0 : Int) ≤ (l : Int) ∧ (l : Int) ≤ (h : Int) := ⟨by omega, by omega⟩
    have g2 : (0 : Int) ≤ (h : Int) ∧ (h : Int) ≤ (cap : Int) := ⟨by omega, by omega⟩
    rcases hlo with ⟨rfl, rfl⟩ | ⟨k, i, rfl, rfl⟩ <;> rcases hhi with ⟨rfl, rfl⟩ | ⟨k', i', rfl, rfl⟩ <;> simp [Instr.sliceBounds, Instr.sliceBound, asIntOf, hlh, hh]
  simp only [Instr.sliceAt, Sem.run_bind, run_underlying hu, Result.andThen_ok, Instr.slice, hb, hs, Sem.run_pure, Nat.mul_one]
theorem run_sliceSl0 {t len cap : Nat} {A : Option Addr} {lo hi : Option Value} {h : Nat} (ht : slcOf P t = some 1) (hlo : (lo = none ∧ 0 = 0) ∨ ∃ k i, lo = some (.int k i) ∧ i = ((0 : Nat) : Int)) (hhi : (hi = none ∧ h = len) ∨ ∃ k i, hi = some (.int k i) ∧ i = (h : Int))
    (hh : h ≤ cap) : (Instr.sliceAt t (.slice A len cap) lo hi none).run P w = .ok (.slice A h cap) w := by
  have e : (if cap = 0 then A else A.map (·.add 0)) = A := by
    split
    · rfl
    · cases A <;> rfl
  rw [run_sliceSl (l := 0) (h := h) ht hlo hhi (Nat.zero_le _) hh, e]
  rfl
end
end Go.Proofs.YtgbhiklengafiaaDoor
namespace Go.Proofs.YtgbhiklengafiaaDoor
open Go.RowKit
section
variable {P : Program} {w0 w : World} {S : List Nat} {L : List Ent}
def ints (k : IntKind) (xs : List Int) : List Value := xs.map (.int k)
theorem run_part_int {e : TypeId} {k k' : IntKind} (he : P.underlying e = some (.int k')) (xs : List Int) {i : Nat} (hi : i < xs.length) : (part e (ints k xs).toArray (i * 1)).run P w = .ok (.int k (xs.getD i 0)) w := by
  have h1 : (isAgg e).run P w = .ok false w := by
    unfold isAgg
    rw [Sem.run_bind, run_underlying he w]
    rfl
  have h2 : (ints k xs)[i]? = some (.int k (xs[i]?.getD 0)) := by
    simp [ints, hi]
  simp [part, h1, h2]
theorem run_eqInts {e : TypeId} {k k' : IntKind} (he : P.underlying e = some (.int k')) (d : Nat) (xs ys : List Int) (hl : xs.length = ys.length) : ∀ is : List Nat, (∀ i ∈ is, i < xs.length) →
    (Op.eqItems (d + 1) e 1 (ints k xs).toArray (ints k ys).toArray is).run P w = .ok (is.all fun i => xs.getD i 0 == ys.getD i 0) w
  | [], _ => rfl
  | i :: is, h => by
    have hi := h i (by simp)
    have ih := run_eqInts (k := k) he d xs ys hl is (fun j hj => h j (by simp [hj]))
    have hi' : i < ys.length := by omega
    simp only [Op.eqItems, Sem.run_bind, run_part_int he xs hi, run_part_int he ys hi', Result.andThen_ok, run_equalIn_int (P := P) w d e k k' _ _ he, List.all_cons]
    cases (xs.getD i 0 == ys.getD i 0) with
    | false => rfl
    | true => simpa using ih
theorem all_range_eq (xs ys : List Int) (hl : xs.length = ys.length) : ((List.range xs.length).all fun i => xs.getD i 0 == ys.getD i 0) = decide (xs = ys) := by
  rw [Bool.eq_iff_iff]
  simp only [List.all_eq_true, List.mem_range, beq_iff_eq, decide_eq_true_eq]
  constructor
  · intro h
    refine List.ext_getElem? (fun i => ?_)
    by_cases hi : i < xs.length
    · have := h i hi
      simp only [List.getD_eq_getElem?_getD] at this
      rw [List.getElem?_eq_getElem hi, List.getElem?_eq_getElem (by omega)] at this ⊢
      simpa using this
    · rw [List.getElem?_eq_none (by omega), List.getElem?_eq_none (by omega)]
  · rintro rfl i _
    rfl
def arrInt (P : Program) (t : TypeId) : Option Nat :=
  match P.underlying t with
  | some (.array n e) => match P.underlying e, P.info? e with
    | some (.int _), some i => if i.size = 1 ∧ P.eqGuardType P.depth t = false then some n else none
    | _, _ => none
  | _ => none
theorem arrInt_spec {t n : Nat} (h : arrInt P t = some n) : ∃ e i k, P.underlying t = some (.array n e) ∧ P.underlying e = some (.int k) ∧ P.info? e = some i ∧ i.size = 1 ∧ P.eqGuardType P.depth t = false := by
  unfold arrInt at h
  split at h
  · rename_i m e hu
    split at h
    · rename_i k i hk hi
      split at h
      · rename_i hc
        injection h with h
        subst h
        exact ⟨e, i, k, hu, hk, hi, hc.1, hc.2⟩
      · cases h
    · cases h
  · cases h
theorem run_arrEq {t n : Nat} {k : IntKind} (ht : arrInt P t = some n) (xs ys : List Int) (hx : xs.length = n) (hy : ys.length = n) (w : World) :
    (Op.equalIn 10000 t (.agg (ints k xs).toArray) (.agg (ints k ys).toArray)).run P w = .ok (decide (xs = ys)) w := by
  obtain ⟨e, i, k', hu, he, hi, hs, _⟩ := arrInt_spec ht
  rw [run_equalIn_array w 9999 _ _ hu hi]
  have hc : P.cellsOf e = 1 := by simp [Program.cellsOf, hi, hs]
  rw [hc, run_eqInts he 9998 xs ys (by omega) (List.range n) (fun j hj => by rw [hx]; simpa using hj), ← hx, all_range_eq xs ys (by omega)]
theorem run_arr_eql {t n : Nat} {k : IntKind} {x y : Operand} (ht : arrInt P t = some n) (xs ys : List Int) (hx : xs.length = n) (hy : ys.length = n) (w : World) :
    (do eqGuard .eql t x y (.agg (ints k xs).toArray) (.agg (ints k ys).toArray); binOp .eql t (.agg (ints k xs).toArray) (.agg (ints k ys).toArray) : Sem Value).run P w = .ok (.bool (decide (xs = ys))) w := by
  obtain ⟨e, i, k', _, _, _, _, hg⟩ := arrInt_spec ht
  simp only [Sem.run_bind, run_eqGuard_agg w .eql t x y _ _ hg, Result.andThen_ok, run_eql_struct, run_arrEq ht xs ys hx hy]
theorem run_arr_neq {t n : Nat} {k : IntKind} {x y : Operand} (ht : arrInt P t = some n) (xs ys : List Int) (hx : xs.length = n) (hy : ys.length = n) (w : World) :
    (do eqGuard .neq t x y (.agg (ints k xs).toArray) (.agg (ints k ys).toArray); binOp .neq t (.agg (ints k xs).toArray) (.agg (ints k ys).toArray) : Sem Value).run P w = .ok (.bool (!decide (xs = ys))) w := by
  obtain ⟨e, i, k', _, _, _, _, hg⟩ := arrInt_spec ht
  simp only [Sem.run_bind, run_eqGuard_agg w .neq t x y _ _ hg, Result.andThen_ok, run_neq_struct, run_arrEq ht xs ys hx hy]
theorem Hp.mark (H : Hp w0 S L w) (i : Nat) {b o : Nat} {cs : List Value} {t T n c : Nat} (hL : L[i]? = some (.blk b cs t)) (ht : isBytes P T = true) :
    ∃ w', (convert T T (.slice (some ⟨b, o, none⟩) n c)).run P w = .ok (.slice (some ⟨b, o, none⟩) n c) w' ∧ Hp w0 S L w' := by
  obtain ⟨e, h1, h2⟩ := isBytes_spec ht
  obtain ⟨lo, hi, hb, hf⟩ := H.blkAt i hL
  have hlt : b < w.heap.size := (Array.getElem?_eq_some_iff.1 hb).1
  have hsh : w.shape? b = some (t, cs.length) := by simp [World.shape?, hb]
  let w' := w.freeze ⟨b, cs.length, none⟩ 1
  have hw' : w'.heap[b]? = some (.cells cs.toArray t (if lo == hi then (cs.length, cs.length + 1) else (min lo cs.length, max hi (cs.length + 1)))) := by
    simp [w', World.freeze, Array.getElem?_modify, hb]
  have hoth : ∀ k, k ≠ b → w'.heap[k]? = w.heap[k]? := by
    intro k hk
    simp only [w', World.freeze]
    rw [if_neg (by decide)]
    simp only [Array.getElem?_modify]
    rw [if_neg (fun h => hk h.symm)]
  have H' : Hp w0 S (L.set i (.blk b cs t)) w' := by
    refine H.turn i hL rfl ?_ rfl rfl rfl (by simp [w', World.freeze]) (fun k _ hk => hoth k (by simpa [Ent.ids] using hk))
    by_cases hlh : lo = hi
    · exact ⟨cs.length, cs.length + 1, by simpa [hlh] using hw', .inr (Nat.le_refl _)⟩
    · refine ⟨min lo cs.length, max hi (cs.length + 1), by simpa [hlh] using hw', .inr ?_⟩
      rcases hf with h | h
      · exact absurd h hlh
      · omega
  have hset : L.set i (.blk b cs t) = L := by
    have hLi : i < L.length := (List.getElem?_eq_some_iff.1 hL).1
    refine List.ext_getElem? (fun k => ?_)
    by_cases hk : i = k
    · subst hk
      rw [List.getElem?_set_self hLi, hL]
    · rw [List.getElem?_set_ne hk]
  rw [hset] at H'
  refine ⟨w', ?_, H'⟩
  simp [convert, run_underlying h1, run_underlying h2, markStringish, shape, freeze, Sem.run, hsh, w']
end
end Go.Proofs.YtgbhiklengafiaaDoor
namespace Go.Proofs.YtgbhiklengafiaaDoor
open Go.RowKit Go.ChangeShapes Go.WideShapes Go.ChangeAt
section
variable {H : Type} {enc : TypeId × Value → H} {P : Program} {w : World} {sp : Nat → Bool} {held : Bool}
def Lf (enc : TypeId × Value → H) (P : Program) (w : World) (sp : Nat → Bool) (held : Bool) (cs : List Value) (o : Nat) (t : TypeId) : Prop :=
  ∃ m y, DataW.trod enc P w 0 sp held m t ((cs.drop o).take (P.cellsOf t)) = some y
theorem one_cell {cs : List Value} {o k : Nat} {v : Value} (h : (cs.drop o).take k = [v]) : cs[o]? = some v := by
  have h1 : ((cs.drop o).take k)[0]? = some v := by rw [h]; rfl
  rw [List.getElem?_take] at h1
  split at h1
  · rw [List.getElem?_drop] at h1
    simpa using h1
  · cases h1
theorem Lf.int {cs : List Value} {o : Nat} {t : TypeId} {k : IntKind} (ht : P.underlying t = some (.int k)) (h : Lf enc P w sp held cs o t) : ∃ n, cs[o]? = some (.int k n) ∧ (Lit.int k n).wf = true := by
  obtain ⟨m, y, h⟩ := h
  obtain ⟨n, e, _, hw⟩ := DataW.trod_int ht h
  exact ⟨n, one_cell e, hw⟩
theorem u8_wf {n : Int} (h : (Lit.int .u8 n).wf = true) : n = ((UInt8.ofNat n.toNat).toNat : Int) := by
  simp [Lit.wf, IntKind.min, IntKind.max, IntKind.signed, IntKind.bits] at h
  rw [UInt8.toNat_ofNat']
  omega
theorem Lf.u8 {cs : List Value} {o : Nat} {t : TypeId} (ht : P.underlying t = some (.int .u8)) (h : Lf enc P w sp held cs o t) : ∃ b : UInt8, cs[o]? = some (.int .u8 (b.toNat : Int)) := by
  obtain ⟨n, h1, h2⟩ := h.int ht
  exact ⟨UInt8.ofNat n.toNat, by rw [h1]; exact congrArg (fun z => some (Value.int .u8 z)) (u8_wf h2)⟩
theorem Lf.u64 {cs : List Value} {o : Nat} {t : TypeId} (ht : P.underlying t = some (.int .u64)) (h : Lf enc P w sp held cs o t) : ∃ n : Nat, cs[o]? = some (.int .u64 (n : Int)) ∧ n < 2 ^ 64 := by
  obtain ⟨n, h1, h2⟩ := h.int ht
  simp [Lit.wf, IntKind.min, IntKind.max, IntKind.signed, IntKind.bits] at h2
  exact ⟨n.toNat, by rw [h1, Int.toNat_of_nonneg h2.1], by omega⟩
theorem Lf.bool {cs : List Value} {o : Nat} {t : TypeId} (ht : P.underlying t = some .bool) (h : Lf enc P w sp held cs o t) : ∃ b, cs[o]? = some (.bool b) := by
  obtain ⟨m, y, h⟩ := h
  cases m with
  | zero => simp [DataW.trod] at h
  | succ m =>
    unfold DataW.trod at h
    rw [ht] at h
    split at h <;> simp_all
    rename_i e
    rw [one_cell e]
    simp
theorem open_u8s {t e : TypeId} {fuel : Nat} {cs : List Value} {x : DataW H × List MemPlace} (ht : P.underlying t = some (.slice e)) (he : P.underlying e = some (.int .u8)) (hc : P.cellsOf e = 1)
    (h : DataW.trod enc P w 0 sp held fuel t cs = some x) : ∃ A bs c, cs = [.slice A bs.length c] ∧ RdS w A (by8 bs) ∧ bs.length ≤ c ∧ c ≤ maxLen := by
  rcases open_ints ht he hc h with ⟨rfl, _⟩ | ⟨a, len, cap, zs, rfl, _, hl, hm, hz, _, hcell, hwz⟩
  · exact ⟨none, [], 0, rfl, .inl rfl, Nat.le_refl _, Nat.zero_le _⟩
  · have hzl : len ≤ zs.length := by rw [hz]; split <;> omega
    refine ⟨some a, (zs.take len).map fun z => UInt8.ofNat z.toNat, cap, by simp [Nat.min_eq_left hzl], ?_, by simp [Nat.min_eq_left hzl]; omega, hm⟩
    have hx : by8 ((zs.take len).map fun z => UInt8.ofNat z.toNat) = (zs.take len).map fun z => Value.int .u8 z := by
      simp only [by8, List.map_map]
      refine List.map_congr_left fun z hz' => ?_
      have := u8_wf (hwz z (List.mem_of_mem_take hz'))
      simp only [Function.comp]
      rw [← this]
    rw [hx]
    by_cases h0 : len = 0
    · exact .inl (by simp [h0])
    · refine .inr ⟨a, rfl, ?_, fun j v hv => ?_⟩
      · have := hcell 0 (by omega)
        have h2 : (a.add 0) = a := by simp [Addr.add]
        rw [h2] at this
        simp only [World.cell?] at this
        split at this
        · rename_i hh
          exact (Array.getElem?_eq_some_iff.1 hh).1
        · cases this
      · have hj : j < len := by
          have := (List.getElem?_eq_some_iff.1 hv).1
          simp at this
          omega
        have h1 := hcell j (by omega)
        rw [h1]
        have hv' : some (Value.int .u8 (zs.getD j 0)) = ((zs.take len).map fun z => Value.int .u8 z)[j]? := by
          rw [List.getElem?_map, List.getElem?_take_of_lt hj, List.getD, List.getElem?_eq_getElem (by omega)]
          rfl
        rw [hv', hv]
theorem Lf.bytes {cs : List Value} {o : Nat} {t e : TypeId} (ht : P.underlying t = some (.slice e)) (he : P.underlying e = some (.int .u8)) (hc : P.cellsOf e = 1) (h : Lf enc P w sp held cs o t) :
    ∃ A bs c, cs[o]? = some (.slice A bs.length c) ∧ RdS w A (by8 bs) ∧ bs.length ≤ c ∧ c ≤ maxLen := by
  obtain ⟨m, y, h⟩ := h
  obtain ⟨A, bs, c, e1, h1, h2, h3⟩ := open_u8s ht he hc h
  exact ⟨A, bs, c, one_cell e1, h1, h2, h3⟩
theorem u64_nat {n : Int} (h : (Lit.int .u64 n).wf = true) : ∃ m : Nat, n = (m : Int) ∧ m < 18446744073709551616 := by
  simp [Lit.wf, IntKind.min, IntKind.max, IntKind.signed, IntKind.bits] at h
  exact ⟨n.toNat, by omega, by omega⟩
theorem open_int' {r : Reach} {b0 : Nat} {t : TypeId} {k : IntKind} {v : Value} {d : DataW H} {p : List MemPlace} (ht : P.underlying t = some (.int k)) (hv : Value.okWide P w r b0 t v) (h : DataW.Trod enc P w 0 sp held t v d p) :
    ∃ n, v = .int k n ∧ (Lit.int k n).wf = true := by
  obtain ⟨x, e1, _, _, hw⟩ := open_int ht hv h
  exact ⟨x, e1, hw⟩
end
end Go.Proofs.YtgbhiklengafiaaDoor
namespace Go.Proofs.YtgbhiklengafiaaDoor
open Go.RowKit
abbrev K : Nat := 18446744073709551616
abbrev K4 : Nat := 115792089237316195423570985008687907853269984665640564039457584007913129639936
def wd (x : Nat) : Nat → Nat
  | 0 => x % K
  | 1 => x / K % K
  | 2 => x / (K * K) % K
  | _ => x / (K * K * K) % K
abbrev wv (x : Nat) : Value := .agg #[.int .u64 (wd x 0 : Int), .int .u64 (wd x 1 : Int), .int .u64 (wd x 2 : Int), .int .u64 (wd x 3 : Int)]
abbrev pt (b o : Nat) : Value := .pointer (some ⟨b, o, none⟩)
theorem wd_lt (x i : Nat) : wd x i < K := by
  unfold wd
  split <;> exact Nat.mod_lt _ (by decide)
theorem wd_sum (x : Nat) (hx : x < K4) : x = wd x 0 + K * wd x 1 + K * K * wd x 2 + K * K * K * wd x 3 := by
  have h3 : wd x 3 = x / (K * K * K) % K := rfl
  have h2 : wd x 2 = x / (K * K) % K := rfl
  have h1 : wd x 1 = x / K % K := rfl
  have h0 : wd x 0 = x % K := rfl
  have e1 : x / (K * K) = x / K / K := (Nat.div_div_eq_div_mul x K K).symm
  have e2 : x / (K * K * K) = x / K / K / K := by rw [← Nat.div_div_eq_div_mul, ← Nat.div_div_eq_div_mul]
  rw [h0, h1, h2, h3, e1, e2]
  generalize hy : x / K = y
  generalize hz : y / K = z
  generalize hu : z / K = u
  simp only [K, K4] at *
  omega
theorem wd_of (a b c d : Nat) (ha : a < K) (hb : b < K) (hc : c < K) (hd : d < K) : wd (a + K * b + K * K * c + K * K * K * d) 0 = a ∧ wd (a + K * b + K * K * c + K * K * K * d) 1 = b ∧ wd (a + K * b + K * K * c + K * K * K * d) 2 = c ∧ wd (a + K * b + K * K * c + K * K * K * d) 3 = d := by
  generalize hx : a + K * b + K * K * c + K * K * K * d = x
  have e1 : x / (K * K) = x / K / K := (Nat.div_div_eq_div_mul x K K).symm
  have e2 : x / (K * K * K) = x / K / K / K := by rw [← Nat.div_div_eq_div_mul, ← Nat.div_div_eq_div_mul]
  refine ⟨show x % K = a from ?_, show x / K % K = b from ?_, show x / (K * K) % K = c from ?_, show x / (K * K * K) % K = d from ?_⟩
  · simp only [K] at *; omega
  · simp only [K] at *; omega
  · rw [e1]
    simp only [K] at *; omega
  · rw [e2]
    simp only [K] at *; omega
theorem wv_of {a b c d x : Nat} (ha : a < K) (hb : b < K) (hc : c < K) (hd : d < K) (hx : x = a + K * b + K * K * c + K * K * K * d) : (.agg #[.int .u64 (a : Int), .int .u64 (b : Int), .int .u64 (c : Int), .int .u64 (d : Int)] : Value) = wv x := by
  obtain ⟨h0, h1, h2, h3⟩ := wd_of a b c d ha hb hc hd
  rw [← hx] at h0 h1 h2 h3
  rw [wv, h0, h1, h2, h3]
theorem wv_lt {a b c d : Nat} (ha : a < K) (hb : b < K) (hc : c < K) (hd : d < K) : a + K * b + K * K * c + K * K * K * d < K4 := by simp only [K, K4] at *; omega
theorem carry_le {x y c : Nat} (hx : x < K) (hy : y < K) (hc : c ≤ 1) : (x + y + c) / K ≤ 1 := by simp only [K] at *; omega
theorem borrow_le (x y b : Nat) : (if x < y + b then 1 else 0 : Nat) ≤ 1 := by split <;> omega
theorem limb {a b c s d : Nat} (hs : s = (a + b + c) % K) (hd : d = (a + b + c) / K) : a + b + c = s + K * d ∧ s < K := by
  subst hs hd
  exact ⟨(Nat.mod_add_div _ _).symm, Nat.mod_lt _ (by decide)⟩
theorem limb_sub {a b c s d : Nat} (ha : a < K) (hb : b < K) (hc : c ≤ 1) (hs : s = (a + K - b - c) % K) (hd : d = if a < b + c then 1 else 0) : a + K * d = s + b + c ∧ s < K ∧ d ≤ 1 := by
  split at hd
  · rw [Nat.mod_eq_of_lt (by omega)] at hs
    subst hd
    omega
  · have e : a + K - b - c = (a - b - c) + K := by omega
    rw [e, Nat.add_mod_right, Nat.mod_eq_of_lt (by omega)] at hs
    subst hd
    omega
theorem mod_K4 {n s c : Nat} (h : n = s + K4 * c) (hs : s < K4) : n % K4 = s := by rw [h, Nat.add_mul_mod_self_left, Nat.mod_eq_of_lt hs]
theorem sum4 {x y x0 x1 x2 x3 y0 y1 y2 y3 s0 s1 s2 s3 c0 c1 c2 c3 : Nat} (ex : x = x0 + K * x1 + K * K * x2 + K * K * K * x3) (ey : y = y0 + K * y1 + K * K * y2 + K * K * K * y3) (h0 : x0 + y0 = s0 + K * c0) (h1 : x1 + y1 + c0 = s1 + K * c1)
    (h2 : x2 + y2 + c1 = s2 + K * c2) (h3 : x3 + y3 + c2 = s3 + K * c3) : x + y = s0 + K * s1 + K * K * s2 + K * K * K * s3 + K4 * c3 := by
  simp only [K, K4] at *
  omega
theorem dif4 {x y x0 x1 x2 x3 y0 y1 y2 y3 s0 s1 s2 s3 c0 c1 c2 c3 : Nat} (ex : x = x0 + K * x1 + K * K * x2 + K * K * K * x3) (ey : y = y0 + K * y1 + K * K * y2 + K * K * K * y3) (h0 : x0 + K * c0 = s0 + y0) (h1 : x1 + K * c1 = s1 + y1 + c0)
    (h2 : x2 + K * c2 = s2 + y2 + c1) (h3 : x3 + K * c3 = s3 + y3 + c2) : x + K4 * c3 = s0 + K * s1 + K * K * s2 + K * K * K * s3 + y := by
  simp only [K, K4] at *
  omega
theorem flag_add {x y s c : Nat} (hx : x < K4) (hy : y < K4) (hs : s < K4) (e : x + y = s + K4 * c) : ((c : Int) == 1) = decide (K4 ≤ x + y) := by
  rw [Bool.eq_iff_iff]
  simp only [beq_iff_eq, decide_eq_true_eq]
  simp only [K4] at *
  omega
theorem flag_sub {x y s c : Nat} (hx : x < K4) (hy : y < K4) (hs : s < K4) (e : x + K4 * c = s + y) : ((c : Int) == 1) = decide (x < y) := by
  rw [Bool.eq_iff_iff]
  simp only [beq_iff_eq, decide_eq_true_eq]
  simp only [K4] at *
  omega
theorem mod_sub {x y s c : Nat} (hx : x < K4) (hy : y < K4) (hs : s < K4) (e : x + K4 * c = s + y) : (x + K4 - y) % K4 = s := by
  simp only [K4] at *
  omega
theorem add_fin {x y s0 s1 s2 s3 c0 c1 c2 c3 : Nat} (hx : x < K4) (hy : y < K4) (h0 : s0 = (wd x 0 + wd y 0 + 0) % K) (g0 : c0 = (wd x 0 + wd y 0 + 0) / K) (h1 : s1 = (wd x 1 + wd y 1 + c0) % K) (g1 : c1 = (wd x 1 + wd y 1 + c0) / K)
    (h2 : s2 = (wd x 2 + wd y 2 + c1) % K) (g2 : c2 = (wd x 2 + wd y 2 + c1) / K) (h3 : s3 = (wd x 3 + wd y 3 + c2) % K) (g3 : c3 = (wd x 3 + wd y 3 + c2) / K) :
    (.agg #[.int .u64 (s0 : Int), .int .u64 (s1 : Int), .int .u64 (s2 : Int), .int .u64 (s3 : Int)] : Value) = wv ((x + y) % K4) ∧ ((c3 : Int) == 1) = decide (K4 ≤ x + y) := by
  have k0 := limb h0 g0
  have k1 := limb h1 g1
  have k2 := limb h2 g2
  have k3 := limb h3 g3
  have e := sum4 (wd_sum x hx) (wd_sum y hy) k0.1 k1.1 k2.1 k3.1
  have hlt := wv_lt k0.2 k1.2 k2.2 k3.2
  exact ⟨wv_of k0.2 k1.2 k2.2 k3.2 (mod_K4 e hlt), flag_add hx hy hlt e⟩
theorem sub_fin {x y s0 s1 s2 s3 c0 c1 c2 c3 : Nat} (hx : x < K4) (hy : y < K4) (h0 : s0 = (wd x 0 + K - wd y 0 - 0) % K) (g0 : c0 = if wd x 0 < wd y 0 + 0 then 1 else 0) (h1 : s1 = (wd x 1 + K - wd y 1 - c0) % K) (g1 : c1 = if wd x 1 < wd y 1 + c0 then 1 else 0)
    (h2 : s2 = (wd x 2 + K - wd y 2 - c1) % K) (g2 : c2 = if wd x 2 < wd y 2 + c1 then 1 else 0) (h3 : s3 = (wd x 3 + K - wd y 3 - c2) % K) (g3 : c3 = if wd x 3 < wd y 3 + c2 then 1 else 0) :
    (.agg #[.int .u64 (s0 : Int), .int .u64 (s1 : Int), .int .u64 (s2 : Int), .int .u64 (s3 : Int)] : Value) = wv ((x + K4 - y) % K4) ∧ ((c3 : Int) == 1) = decide (x < y) := by
  have k0 := limb_sub (wd_lt x 0) (wd_lt y 0) (Nat.zero_le 1) h0 g0
  have k1 := limb_sub (wd_lt x 1) (wd_lt y 1) k0.2.2 h1 g1
  have k2 := limb_sub (wd_lt x 2) (wd_lt y 2) k1.2.2 h2 g2
  have k3 := limb_sub (wd_lt x 3) (wd_lt y 3) k2.2.2 h3 g3
  have e := dif4 (wd_sum x hx) (wd_sum y hy) k0.1 k1.1 k2.1 k3.1
  have hlt := wv_lt k0.2.1 k1.2.1 k2.2.1 k3.2.1
  exact ⟨wv_of k0.2.1 k1.2.1 k2.2.1 k3.2.1 (mod_sub hx hy hlt e), flag_sub hx hy hlt e⟩
end Go.Proofs.YtgbhiklengafiaaDoor
namespace Go.Proofs.YtgbhiklengafiaaDoor
open Go.RowKit
theorem n_add (a b : Nat) : IntKind.u64.wrap ((a : Int) + (b : Int)) = (((a + b) % K : Nat) : Int) := by rw [IntKind.wrap_u64]; simp only [K]; omega
theorem n_add' {a b : Nat} (h : a + b < K) : IntKind.u64.wrap ((a : Int) + (b : Int)) = ((a + b : Nat) : Int) := by rw [n_add, Nat.mod_eq_of_lt h]
theorem n_mul (a b : Nat) : IntKind.u64.wrap ((a : Int) * (b : Int)) = (((a * b) % K : Nat) : Int) := by
  rw [IntKind.wrap_u64, ← Int.natCast_mul]
  simp only [K]
  omega
theorem n_mul' {a b : Nat} (h : a * b < K) : IntKind.u64.wrap ((a : Int) * (b : Int)) = ((a * b : Nat) : Int) := by rw [n_mul, Nat.mod_eq_of_lt h]
theorem n_shr (a n : Nat) : Int.fdiv (a : Int) (2 ^ n) = ((a / 2 ^ n : Nat) : Int) := by
  have e : ((2 : Int) ^ n) = ((2 ^ n : Nat) : Int) := by simp
  rw [e, Int.fdiv_eq_ediv_of_nonneg _ (Int.natCast_nonneg _)]
  simp
theorem n_shl (a n : Nat) : IntKind.u64.wrap ((a : Int) * 2 ^ n) = (((a * 2 ^ n) % K : Nat) : Int) := by
  have e : ((2 : Int) ^ n) = ((2 ^ n : Nat) : Int) := by simp
  rw [e, n_mul]
theorem n_and {a b : Nat} (ha : a < K) (hb : b < K) : Go.bits .and .u64 (a : Int) (b : Int) = ((a &&& b : Nat) : Int) :=
  (bits_nat .u64 64 (by decide) (fun n h0 h1 => by rw [IntKind.wrap_u64]; omega) a b (by simpa [K] using ha) (by simpa [K] using hb)).1
theorem n_or {a b : Nat} (ha : a < K) (hb : b < K) : Go.bits .or .u64 (a : Int) (b : Int) = ((a ||| b : Nat) : Int) :=
  (bits_nat .u64 64 (by decide) (fun n h0 h1 => by rw [IntKind.wrap_u64]; omega) a b (by simpa [K] using ha) (by simpa [K] using hb)).2
theorem n_mask32 {a : Nat} (ha : a < K) : Go.bits .and .u64 (a : Int) 4294967295 = ((a % 4294967296 : Nat) : Int) := by
  rw [show (4294967295 : Int) = ((4294967295 : Nat) : Int) from rfl, n_and ha (by decide), show (4294967295 : Nat) = 2 ^ 32 - 1 from rfl, Nat.and_two_pow_sub_one_eq_mod]
theorem n_and1 {a : Nat} (ha : a < K) : Go.bits .and .u64 (a : Int) 1 = ((a % 2 : Nat) : Int) := by
  rw [show (1 : Int) = ((1 : Nat) : Int) from rfl, n_and ha (by decide), show (1 : Nat) = 2 ^ 1 - 1 from rfl, Nat.and_two_pow_sub_one_eq_mod]
theorem half_lt {a b : Nat} (ha : a ≤ 4294967295) (hb : b ≤ 4294967295) : a * b < K := by
  have := Go.Lib.half_mul_le ha hb
  simp only [K]
  omega
theorem mulhi_lt {x y : Nat} (hx : x < K) (hy : y < K) : x * y / K ≤ K - 2 := by
  have h1 : x * y ≤ (K - 1) * (K - 1) := Nat.mul_le_mul (by omega) (by omega)
  have h2 : x * y / K ≤ (K - 1) * (K - 1) / K := Nat.div_le_div_right h1
  exact Nat.le_trans h2 (by decide)
def cmpN (x y : Nat) : Int := if x < y then -1 else if y < x then 1 else 0
theorem cmp_lt {x y : Nat} (h : x < y) : (-1 : Int) = cmpN x y := by rw [cmpN, if_pos h]
theorem cmp_gt {x y : Nat} (h : y < x) : (1 : Int) = cmpN x y := by rw [cmpN, if_neg (by omega), if_pos h]
theorem cmp_eq {x y : Nat} (h : x = y) : (0 : Int) = cmpN x y := by rw [cmpN, if_neg (by omega), if_neg (by omega)]
theorem mul4 {x y x0 x1 x2 x3 : Nat} (ex : x = x0 + K * x1 + K * K * x2 + K * K * K * x3) : x * y = x0 * y + K * (x1 * y) + K * K * (x2 * y) + K * K * K * (x3 * y) := by
  rw [ex, Nat.add_mul, Nat.add_mul, Nat.add_mul, Nat.mul_assoc K x1, Nat.mul_assoc (K * K) x2, Nat.mul_assoc (K * K * K) x3]
theorem prod_fin {a b : Nat} (ha : a < K) (hb : b < K) : (.agg #[.int .u64 ((a * b % K : Nat) : Int), .int .u64 ((a * b / K : Nat) : Int), .int .u64 0, .int .u64 0] : Value) = wv (a * b) := by
  have h := mulhi_lt ha hb
  have := wv_of (a := a * b % K) (b := a * b / K) (c := 0) (d := 0) (x := a * b) (Nat.mod_lt _ (by decide)) (by omega) (by decide) (by decide) (by simp only [Nat.mul_zero, Nat.add_zero]; exact (Nat.mod_add_div _ _).symm)
  exact this
theorem wv_eq {x y : Nat} (hx : x < K4) (hy : y < K4) : ([(wd x 0 : Int), (wd x 1 : Int), (wd x 2 : Int), (wd x 3 : Int)] = [(wd y 0 : Int), (wd y 1 : Int), (wd y 2 : Int), (wd y 3 : Int)]) ↔ x = y := by
  constructor
  · intro h
    simp only [List.cons.injEq, Int.natCast_inj, and_true] at h
    rw [wd_sum x hx, wd_sum y hy, h.1, h.2.1, h.2.2.1, h.2.2.2]
  · rintro rfl
    rfl
def bl (x : Nat) : Nat := if x = 0 then 0 else Nat.log2 x + 1
theorem bl_uniq {x m : Nat} (h1 : 2 ^ m ≤ x) (h2 : x < 2 ^ (m + 1)) : bl x = m + 1 := by
  have h0 : x ≠ 0 := by
    have := Nat.two_pow_pos m
    omega
  rw [bl, if_neg h0, (Nat.log2_eq_iff h0).2 ⟨h1, h2⟩]
theorem bl_spec {x : Nat} (h0 : x ≠ 0) : ∃ m, bl x = m + 1 ∧ 2 ^ m ≤ x ∧ x < 2 ^ (m + 1) := by
  refine ⟨Nat.log2 x, by rw [bl, if_neg h0], ?_⟩
  exact (Nat.log2_eq_iff h0).1 rfl
theorem bl_shr {x : Nat} (k : Nat) (h : 2 ^ k ≤ x) : bl x = k + bl (x / 2 ^ k) := by
  have hy : x / 2 ^ k ≠ 0 := by
    have := (Nat.le_div_iff_mul_le (Nat.two_pow_pos k)).2 (show 1 * 2 ^ k ≤ x by omega)
    omega
  obtain ⟨m, e, h1, h2⟩ := bl_spec hy
  rw [e]
  have h3 : 2 ^ m * 2 ^ k ≤ x := (Nat.le_div_iff_mul_le (Nat.two_pow_pos k)).1 h1
  have h4 : x < 2 ^ (m + 1) * 2 ^ k := (Nat.div_lt_iff_lt_mul (Nat.two_pow_pos k)).1 h2
  rw [← Nat.pow_add] at h3 h4
  rw [bl_uniq (m := m + k) h3 (by rwa [show m + k + 1 = m + 1 + k from by omega])]
  omega
theorem bl_lt (x : Nat) : x < 2 ^ bl x := by
  by_cases h0 : x = 0
  · subst h0
    decide
  · obtain ⟨m, e, _, h2⟩ := bl_spec h0
    rw [e]
    exact h2
theorem bl_le {x k : Nat} (h : x < 2 ^ k) : bl x ≤ k := by
  by_cases h0 : x = 0
  · subst h0
    exact Nat.zero_le _
  · obtain ⟨m, e, h1, _⟩ := bl_spec h0
    rw [e]
    exact (Nat.pow_lt_pow_iff_right (by decide)).1 (Nat.lt_of_le_of_lt h1 h)
def tab8 : List UInt8 := [0, 1, 2, 2, 3, 3, 3, 3, 4, 4, 4, 4, 4, 4, 4, 4, 5, 5, 5, 5, 5, 5, 5, 5, 5, 5, 5, 5, 5, 5, 5, 5, 6, 6, 6, 6, 6, 6, 6, 6, 6, 6, 6, 6, 6, 6, 6, 6, 6, 6, 6, 6, 6, 6, 6, 6, 6, 6, 6, 6, 6, 6, 6, 6, 7, 7, 7, 7, 7, 7, 7, 7, 7, 7, 7, 7, 7, 7, 7, 7, 7, 7, 7, 7, 7, 7, 7, 7, 7, 7, 7, 7, 7, 7, 7, 7, 7, 7, 7, 7, 7, 7, 7, 7, 7, 7, 7, 7, 7, 7, 7, 7, 7, 7, 7, 7, 7, 7, 7, 7, 7, 7, 7, 7, 7, 7, 7, 7, 8, 8, 8, 8, 8, 8, 8, 8, 8, 8, 8, 8, 8, 8, 8, 8, 8, 8, 8, 8, 8, 8, 8, 8, 8, 8, 8, 8, 8, 8, 8, 8, 8, 8, 8, 8, 8, 8, 8, 8, 8, 8, 8, 8, 8, 8, 8, 8, 8, 8, 8, 8, 8, 8, 8, 8, 8, 8, 8, 8, 8, 8, 8, 8, 8, 8, 8, 8, 8, 8, 8, 8, 8, 8, 8, 8, 8, 8, 8, 8, 8, 8, 8, 8, 8, 8, 8, 8, 8, 8, 8, 8, 8, 8, 8, 8, 8, 8, 8, 8, 8, 8, 8, 8, 8, 8, 8, 8, 8, 8, 8, 8, 8, 8, 8, 8, 8, 8, 8, 8, 8, 8, 8, 8, 8, 8, 8, 8]
theorem tab8_bl : ∀ i, i < 256 → tab8[i]? = some (UInt8.ofNat (bl i)) := by decide +kernel
theorem bl_w {x : Nat} (hx : x < 256) : (UInt8.ofNat (bl x)).toNat = bl x := by
  have := bl_le (k := 8) hx
  rw [UInt8.toNat_ofNat']
  omega
theorem wd_top3 {x : Nat} (h : 0 < wd x 3) (hx : x < K4) : bl x = 192 + bl (wd x 3) := by
  have e : wd x 3 = x / 2 ^ 192 := by
    show x / (K * K * K) % K = _
    rw [show (2 : Nat) ^ 192 = K * K * K from by decide]
    exact Nat.mod_eq_of_lt (by simp only [K, K4] at *; omega)
  rw [e] at h ⊢
  exact bl_shr 192 (by have := Nat.div_pos_iff.1 h; omega)
theorem wd_top2 {x : Nat} (h3 : wd x 3 = 0) (h : 0 < wd x 2) (hx : x < K4) : bl x = 128 + bl (wd x 2) := by
  have e : wd x 2 = x / 2 ^ 128 := by
    have s := wd_sum x hx
    have b0 := wd_lt x 0
    have b1 := wd_lt x 1
    generalize wd x 0 = a at *
    generalize wd x 1 = b at *
    generalize wd x 2 = c at *
    rw [h3] at s
    simp only [K] at *
    omega
  rw [e] at h ⊢
  exact bl_shr 128 (by have := Nat.div_pos_iff.1 h; omega)
theorem wd_top1 {x : Nat} (h3 : wd x 3 = 0) (h2 : wd x 2 = 0) (h : 0 < wd x 1) (hx : x < K4) : bl x = 64 + bl (wd x 1) := by
  have e : wd x 1 = x / 2 ^ 64 := by
    have s := wd_sum x hx
    have b0 := wd_lt x 0
    generalize wd x 0 = a at *
    generalize wd x 1 = b at *
    rw [h3, h2] at s
    simp only [K] at *
    omega
  rw [e] at h ⊢
  exact bl_shr 64 (by have := Nat.div_pos_iff.1 h; omega)
theorem wd_top0 {x : Nat} (h3 : wd x 3 = 0) (h2 : wd x 2 = 0) (h1 : wd x 1 = 0) (hx : x < K4) : x = wd x 0 := by
  have s := wd_sum x hx
  rw [h3, h2, h1] at s
  omega
theorem run_strIdx {P : Program} {t : TypeId} {s : List UInt8} {k : IntKind} {i : Nat} {b : UInt8} (ht : isStr P t = true) (hb : s[i]? = some b) (w : World) : (Instr.index t (.string (strOf s)) (.int k (i : Int))).run P w = .ok (.int .u8 (b.toNat : Int)) w := by
  have h1 : (strOf s)[i]? = some b := by
    have hi : i < s.length := (List.getElem?_eq_some_iff.1 hb).1
    have hs : i < (strOf s).size := by rw [strOf_size]; exact hi
    rw [getElem?_pos (strOf s) i hs]
    have : (strOf s)[i] = s[i] := by
      show (strOf s).data[i] = s[i]
      simp [strOf]
      rfl
    rw [this, ← hb, List.getElem?_eq_getElem hi]
    rfl
  simp [Instr.index, asIntOf, run_underlying (isStr_spec ht), h1]
end Go.Proofs.YtgbhiklengafiaaDoor
namespace Go.Proofs.YtgbhiklengafiaaDoor
open Go.RowKit
section
variable {P : Program}
theorem run_shlN {t : TypeId} {k' : IntKind} {a r : Nat} (hr : r ≤ 64) (w : World) : (binOp .shl t (.int .u64 (a : Int)) (.int k' (r : Int))).run P w = .ok (.int .u64 ((a * 2 ^ r % K : Nat) : Int)) w := by
  rw [run_shl rfl (by omega), show min ((r : Int)).toNat IntKind.u64.bits = r from by simp only [IntKind.bits]; omega, n_shl]
theorem run_shrN {t : TypeId} {k' : IntKind} {a r : Nat} (hr : r ≤ 64) (w : World) : (binOp .shr t (.int .u64 (a : Int)) (.int k' (r : Int))).run P w = .ok (.int .u64 ((a / 2 ^ r : Nat) : Int)) w := by
  rw [run_shr rfl (by omega), show min ((r : Int)).toNat IntKind.u64.bits = r from by simp only [IntKind.bits]; omega, n_shr]
theorem run_quo64 {t : TypeId} {n q r : Nat} (h : n = 64 * q + r) (hr : r < 64) (hq : n < 2 ^ 62) (w : World) : (binOp .quo t (.int .i64 (n : Int)) (.int .i64 64)).run P w = .ok (.int .i64 (q : Int)) w := by
  rw [run_quo (by decide), Int.tdiv_eq_ediv_of_nonneg (by omega), in_i64 (by omega)]
  congr 2
  omega
theorem run_rem64 {t : TypeId} {n q r : Nat} (h : n = 64 * q + r) (hr : r < 64) (w : World) : (binOp .rem t (.int .i64 (n : Int)) (.int .i64 64)).run P w = .ok (.int .i64 (r : Int)) w := by
  rw [run_rem (by decide), Int.tmod_eq_emod_of_nonneg (by omega)]
  congr 2
  omega
end
theorem two64 {r : Nat} (hr : r ≤ 64) : 2 ^ (64 - r) * 2 ^ r = K := by
  rw [← Nat.pow_add, show 64 - r + r = 64 from by omega]
theorem shl_parts {a b r : Nat} (hb : b < K) (hr : r ≤ 64) : b / 2 ^ (64 - r) = b * 2 ^ r / K ∧ a * 2 ^ r % K = 2 ^ r * (a % 2 ^ (64 - r)) ∧ b / 2 ^ (64 - r) < 2 ^ r := by
  have hK := two64 hr
  refine ⟨?_, ?_, ?_⟩
  · rw [← hK, Nat.mul_div_mul_right _ _ (Nat.two_pow_pos r)]
  · rw [← hK, Nat.mul_mod_mul_right, Nat.mul_comm]
  · rw [Nat.div_lt_iff_lt_mul (Nat.two_pow_pos _), Nat.mul_comm, hK]
    exact hb
theorem shl_lt {a b r : Nat} (hb : b < K) (hr : r ≤ 64) : a * 2 ^ r % K + b * 2 ^ r / K < K := by
  obtain ⟨h1, h2, h3⟩ := shl_parts (a := a) hb hr
  rw [← h1, h2, ← two64 hr]
  have h4 : a % 2 ^ (64 - r) + 1 ≤ 2 ^ (64 - r) := Nat.mod_lt _ (Nat.two_pow_pos _)
  have h5 := Nat.mul_le_mul_left (2 ^ r) h4
  rw [Nat.mul_add, Nat.mul_one] at h5
  rw [Nat.mul_comm (2 ^ (64 - r))]
  omega
theorem or_shift {a b r : Nat} (hb : b < K) (hr : r ≤ 64) : Go.bits .or .u64 ((a * 2 ^ r % K : Nat) : Int) ((b / 2 ^ (64 - r) : Nat) : Int) = ((a * 2 ^ r % K + b * 2 ^ r / K : Nat) : Int) := by
  obtain ⟨h1, h2, h3⟩ := shl_parts (a := a) hb hr
  rw [n_or (Nat.mod_lt _ (by decide)) (Nat.lt_of_le_of_lt (Nat.div_le_self _ _) hb), ← h1, h2, Nat.two_pow_add_eq_or_of_lt h3]
theorem shl_sum {x r : Nat} (hx : x < K4) : x * 2 ^ r = wd x 0 * 2 ^ r % K + K * (wd x 1 * 2 ^ r % K + wd x 0 * 2 ^ r / K) + K * K * (wd x 2 * 2 ^ r % K + wd x 1 * 2 ^ r / K) + K * K * K * (wd x 3 * 2 ^ r % K + wd x 2 * 2 ^ r / K) + K4 * (wd x 3 * 2 ^ r / K) := by
  rw [mul4 (y := 2 ^ r) (wd_sum x hx)]
  generalize wd x 0 * 2 ^ r = p0
  generalize wd x 1 * 2 ^ r = p1
  generalize wd x 2 * 2 ^ r = p2
  generalize wd x 3 * 2 ^ r = p3
  simp only [K, K4]
  omega
theorem left_fin0 {x r : Nat} (hx : x < K4) (hr : r ≤ 64) : (.agg #[.int .u64 ((wd x 0 * 2 ^ r % K : Nat) : Int), .int .u64 ((wd x 1 * 2 ^ r % K + wd x 0 * 2 ^ r / K : Nat) : Int), .int .u64 ((wd x 2 * 2 ^ r % K + wd x 1 * 2 ^ r / K : Nat) : Int), .int .u64 ((wd x 3 * 2 ^ r % K + wd x 2 * 2 ^ r / K : Nat) : Int)] : Value) = wv (x * 2 ^ r % K4) := by
  have b0 : wd x 0 * 2 ^ r % K < K := Nat.mod_lt _ (by decide)
  have b1 := shl_lt (a := wd x 1) (wd_lt x 0) hr
  have b2 := shl_lt (a := wd x 2) (wd_lt x 1) hr
  have b3 := shl_lt (a := wd x 3) (wd_lt x 2) hr
  exact wv_of b0 b1 b2 b3 (mod_K4 (shl_sum hx) (wv_lt b0 b1 b2 b3))
theorem shl_none (a : Nat) (ha : a < K) : a * 2 ^ 0 / K = 0 := by rw [Nat.pow_zero, Nat.mul_one, Nat.div_eq_of_lt ha]
theorem left_fin0' {x r : Nat} (hx : x < K4) (hr : r = 0) : (.agg #[.int .u64 ((wd x 0 * 2 ^ r % K : Nat) : Int), .int .u64 ((wd x 1 * 2 ^ r % K : Nat) : Int), .int .u64 ((wd x 2 * 2 ^ r % K : Nat) : Int), .int .u64 ((wd x 3 * 2 ^ r % K : Nat) : Int)] : Value) = wv (x * 2 ^ r % K4) := by
  subst hr
  rw [← left_fin0 hx (by decide)]
  simp only [shl_none _ (wd_lt x _), Nat.add_zero]
end Go.Proofs.YtgbhiklengafiaaDoor
namespace Go.Proofs.YtgbhiklengafiaaDoor
open Go.RowKit
theorem q64 {n : Nat} (h : n < 4611686018427387904) : IntKind.i64.wrap (Int.tdiv (n : Int) 64) = ((n / 64 : Nat) : Int) := by
  rw [Int.tdiv_eq_ediv_of_nonneg (by omega), in_i64 (by omega)]
  omega
theorem r64 (n : Nat) : Int.tmod (n : Int) 64 = ((n % 64 : Nat) : Int) := by
  rw [Int.tmod_eq_emod_of_nonneg (by omega)]
  omega
theorem wd_cell (x : Nat) {j : Nat} (hj : j < 4) : ([.int .u64 (wd x 0 : Int), .int .u64 (wd x 1 : Int), .int .u64 (wd x 2 : Int), .int .u64 (wd x 3 : Int)] : List Value)[0 + j * 1]? = some (.int .u64 (wd x j : Int)) := by
  match j, hj with
  | 0, _ => rfl
  | 1, _ => rfl
  | 2, _ => rfl
  | 3, _ => rfl
theorem wd_div (x : Nat) {j : Nat} (hj : j < 4) : wd x j = x / 2 ^ (64 * j) % K := by
  match j, hj with
  | 0, _ => show x % K = _; rw [Nat.mul_zero, Nat.pow_zero, Nat.div_one]
  | 1, _ => rfl
  | 2, _ => show x / (K * K) % K = _; rw [show (2 : Nat) ^ (64 * 2) = K * K from by decide]
  | 3, _ => show x / (K * K * K) % K = _; rw [show (2 : Nat) ^ (64 * 3) = K * K * K from by decide]
theorem bit_of {x m : Nat} (hm : m < 256) : wd x (m / 64) / 2 ^ (m % 64) % 2 = x / 2 ^ m % 2 := by
  have he : m % 64 < 64 := Nat.mod_lt _ (by decide)
  have hK : K = 2 ^ (m % 64) * 2 ^ (64 - m % 64) := by rw [Nat.mul_comm, two64 (by omega)]
  rw [wd_div x (by omega), hK, Nat.mod_mul_right_div_self, Nat.div_div_eq_div_mul, ← Nat.pow_add, show 64 * (m / 64) + m % 64 = m from by omega]
  refine Nat.mod_mod_of_dvd _ ?_
  exact ⟨2 ^ (63 - m % 64), by rw [← Nat.pow_succ', show (63 - m % 64).succ = 64 - m % 64 from by omega]⟩
theorem bit_lt {a e : Nat} (ha : a < K) : a / 2 ^ e < K := Nat.lt_of_le_of_lt (Nat.div_le_self _ _) ha
theorem or_bit {a b : Nat} (ha : a % 2 = 0) (haK : a < K) (hb : b < 2) : Go.bits .or .u64 (a : Int) (b : Int) = ((a + b : Nat) : Int) := by
  rw [n_or haK (by simp only [K]; omega)]
  have h := Nat.two_pow_add_eq_or_of_lt (i := 1) (b := b) (by omega) (a / 2)
  rw [show 2 ^ 1 * (a / 2) = a from by omega] at h
  rw [h]
theorem even_wd (R : Nat) : wd (R * 2 ^ 1 % K4) 0 % 2 = 0 := by
  show R * 2 ^ 1 % K4 % K % 2 = 0
  simp only [K, K4]
  omega
theorem even_lt {R b : Nat} (hb : b < 2) : R * 2 ^ 1 % K4 + b < K4 := by
  simp only [K4]
  omega
theorem even_add {E b : Nat} (hE : wd E 0 % 2 = 0) (hK : E < K4) (hb : b < 2) : wd (E + b) 0 = wd E 0 + b ∧ wd (E + b) 1 = wd E 1 ∧ wd (E + b) 2 = wd E 2 ∧ wd (E + b) 3 = wd E 3 := by
  have s := wd_sum E hK
  have b0 := wd_lt E 0
  have h := wd_of (wd E 0 + b) (wd E 1) (wd E 2) (wd E 3) (by simp only [K] at *; omega) (wd_lt _ _) (wd_lt _ _) (wd_lt _ _)
  rwa [show wd E 0 + b + K * wd E 1 + K * K * wd E 2 + K * K * K * wd E 3 = E + b from by omega] at h
theorem mul_bit {Q j e : Nat} (hQ : Q % 2 ^ (64 * j + e + 1) = 0) (hj : j < 4) (he : e < 64) : wd Q j % 2 ^ (e + 1) = 0 := by
  have hK : K = 2 ^ (e + 1) * 2 ^ (64 - (e + 1)) := by rw [Nat.mul_comm, two64 (by omega)]
  rw [wd_div Q hj, hK, Nat.mod_mul_right_mod]
  have h := Nat.mod_mul_right_div_self Q (2 ^ (64 * j)) (2 ^ (e + 1))
  rw [← Nat.pow_add, show 64 * j + (e + 1) = 64 * j + e + 1 from by omega, hQ, Nat.zero_div] at h
  exact h.symm
theorem set_or {a e : Nat} (ha : a % 2 ^ (e + 1) = 0) (haK : a < K) (he : e < 64) : (a ||| 1 * 2 ^ e % K) = a + 2 ^ e ∧ a + 2 ^ e < K := by
  have hlt : 2 ^ e < 2 ^ (e + 1) := Nat.pow_lt_pow_right (by decide) (by omega)
  have heK : 2 ^ e < K := by
    have : 2 ^ e < 2 ^ 64 := Nat.pow_lt_pow_right (by decide) he
    simpa [K] using this
  obtain ⟨t, ht⟩ := Nat.dvd_of_mod_eq_zero ha
  have h := Nat.two_pow_add_eq_or_of_lt (i := e + 1) (b := 2 ^ e) hlt t
  rw [Nat.one_mul, Nat.mod_eq_of_lt heK, ht, ← h]
  refine ⟨rfl, ?_⟩
  have hK : K = 2 ^ (e + 1) * 2 ^ (64 - (e + 1)) := by rw [Nat.mul_comm, two64 (by omega)]
  rw [ht, hK] at haK
  have h1 : t < 2 ^ (64 - (e + 1)) := Nat.lt_of_mul_lt_mul_left haK
  have h2 := Nat.mul_le_mul_left (2 ^ (e + 1)) (show t + 1 ≤ 2 ^ (64 - (e + 1)) from h1)
  rw [Nat.mul_add, Nat.mul_one, ← hK] at h2
  omega
theorem setbit {Q j e : Nat} (hQ : Q % 2 ^ (64 * j + e + 1) = 0) (hK : Q < K4) (hj : j < 4) (he : e < 64) :
    ([.int .u64 (wd Q 0 : Int), .int .u64 (wd Q 1 : Int), .int .u64 (wd Q 2 : Int), .int .u64 (wd Q 3 : Int)] : List Value).set (0 + j * 1) (.int .u64 ((wd Q j ||| 1 * 2 ^ e % K : Nat) : Int)) =
      [.int .u64 (wd (Q + 2 ^ (64 * j + e)) 0 : Int), .int .u64 (wd (Q + 2 ^ (64 * j + e)) 1 : Int), .int .u64 (wd (Q + 2 ^ (64 * j + e)) 2 : Int), .int .u64 (wd (Q + 2 ^ (64 * j + e)) 3 : Int)] := by
  obtain ⟨h1, h2⟩ := set_or (mul_bit hQ hj he) (wd_lt Q j) he
  rw [h1]
  have s := wd_sum Q hK
  have b0 := wd_lt Q 0
  have b1 := wd_lt Q 1
  have b2 := wd_lt Q 2
  have b3 := wd_lt Q 3
  rw [Nat.pow_add]
  generalize 2 ^ e = p at *
  match j, hj with
  | 0, _ =>
    have h := wd_of (wd Q 0 + p) (wd Q 1) (wd Q 2) (wd Q 3) h2 b1 b2 b3
    rw [show wd Q 0 + p + K * wd Q 1 + K * K * wd Q 2 + K * K * K * wd Q 3 = Q + 2 ^ (64 * 0) * p from by rw [show (2 : Nat) ^ (64 * 0) = 1 from rfl]; omega] at h
    rw [h.1, h.2.1, h.2.2.1, h.2.2.2]
    rfl
  | 1, _ =>
    have h := wd_of (wd Q 0) (wd Q 1 + p) (wd Q 2) (wd Q 3) b0 h2 b2 b3
    rw [show wd Q 0 + K * (wd Q 1 + p) + K * K * wd Q 2 + K * K * K * wd Q 3 = Q + 2 ^ (64 * 1) * p from by rw [show (2 : Nat) ^ (64 * 1) = K from by decide]; simp only [K] at *; omega] at h
    rw [h.1, h.2.1, h.2.2.1, h.2.2.2]
    rfl
  | 2, _ =>
    have h := wd_of (wd Q 0) (wd Q 1) (wd Q 2 + p) (wd Q 3) b0 b1 h2 b3
    rw [show wd Q 0 + K * wd Q 1 + K * K * (wd Q 2 + p) + K * K * K * wd Q 3 = Q + 2 ^ (64 * 2) * p from by rw [show (2 : Nat) ^ (64 * 2) = K * K from by decide]; simp only [K] at *; omega] at h
    rw [h.1, h.2.1, h.2.2.1, h.2.2.2]
    rfl
  | 3, _ =>
    have h := wd_of (wd Q 0) (wd Q 1) (wd Q 2) (wd Q 3 + p) b0 b1 b2 h2
    rw [show wd Q 0 + K * wd Q 1 + K * K * wd Q 2 + K * K * K * (wd Q 3 + p) = Q + 2 ^ (64 * 3) * p from by rw [show (2 : Nat) ^ (64 * 3) = K * K * K from by decide]; simp only [K] at *; omega] at h
    rw [h.1, h.2.1, h.2.2.1, h.2.2.2]
    rfl
theorem half_step (x : Nat) {m : Nat} (hm : 0 < m) : x / 2 ^ (m - 1) = 2 * (x / 2 ^ m) + x / 2 ^ (m - 1) % 2 := by
  have h : x / 2 ^ m = x / 2 ^ (m - 1) / 2 := by rw [Nat.div_div_eq_div_mul, ← Nat.pow_succ, show (m - 1).succ = m from by omega]
  rw [h]
  omega
theorem div_up {X Y y : Nat} {b : Nat} (hy : 0 < y) (hX : X = 2 * Y + b) (hb : b < 2) (hge : y ≤ 2 * (Y % y) + b) : X / y = 2 * (Y / y) + 1 ∧ X % y = 2 * (Y % y) + b - y := by
  have h1 := Nat.div_add_mod Y y
  have h2 := Nat.mod_lt Y hy
  generalize Y / y = q at *
  generalize Y % y = r at *
  have e : X = (2 * r + b - y) + y * (2 * q + 1) := by
    rw [Nat.mul_add, Nat.mul_left_comm]
    omega
  rw [e]
  constructor
  · rw [Nat.add_mul_div_left _ _ hy, Nat.div_eq_of_lt (by omega)]
    omega
  · rw [Nat.add_mul_mod_self_left, Nat.mod_eq_of_lt (by omega)]
theorem div_down {X Y y : Nat} {b : Nat} (hy : 0 < y) (hX : X = 2 * Y + b) (hlt : 2 * (Y % y) + b < y) : X / y = 2 * (Y / y) ∧ X % y = 2 * (Y % y) + b := by
  have h1 := Nat.div_add_mod Y y
  generalize Y / y = q at *
  generalize Y % y = r at *
  have e : X = (2 * r + b) + y * (2 * q) := by
    rw [Nat.mul_left_comm]
    omega
  rw [e]
  constructor
  · rw [Nat.add_mul_div_left _ _ hy, Nat.div_eq_of_lt hlt]
    omega
  · rw [Nat.add_mul_mod_self_left, Nat.mod_eq_of_lt hlt]
theorem high_bit {R : Nat} (hR : R < K4) : ((((wd R 3 / 2 ^ 63 : Nat) : Int) == 1) = true) ↔ K4 ≤ 2 * R := by
  have s := wd_sum R hR
  have b0 := wd_lt R 0
  have b1 := wd_lt R 1
  have b2 := wd_lt R 2
  have b3 := wd_lt R 3
  generalize wd R 0 = a at *
  generalize wd R 1 = b at *
  generalize wd R 2 = c at *
  generalize wd R 3 = d at *
  rw [beq_iff_eq]
  simp only [K, K4] at *
  omega
theorem cmp_ge {x y : Nat} : 0 ≤ cmpN x y ↔ y ≤ x := by
  unfold cmpN
  split
  · omega
  · split <;> omega
theorem pow_half {m : Nat} (hm : 0 < m) : 2 ^ m = 2 * 2 ^ (m - 1) := by rw [← Nat.pow_succ', show (m - 1).succ = m from by omega]
theorem round_up {x y m R Q E D F : Nat} (hy : 0 < y) (hy4 : y < K4) (hm0 : 0 < m) (hR : R = x / 2 ^ m % y) (hQ : Q = x / 2 ^ m / y * 2 ^ m) (hE : E = R * 2 ^ 1 % K4) (hD : D = E + x / 2 ^ (m - 1) % 2) (hF : F = (D + K4 - y) % K4)
    (h : K4 ≤ 2 * R ∨ ¬ K4 ≤ 2 * R ∧ y ≤ D) : x / 2 ^ (m - 1) / y * 2 ^ (m - 1) = Q + 2 ^ (m - 1) ∧ x / 2 ^ (m - 1) % y = F := by
  have hs := half_step x hm0
  have hb : x / 2 ^ (m - 1) % 2 < 2 := Nat.mod_lt _ (by decide)
  have hRy : R < y := by rw [hR]; exact Nat.mod_lt _ hy
  generalize hbb : x / 2 ^ (m - 1) % 2 = b at *
  have hge : y ≤ 2 * (x / 2 ^ m % y) + b := by
    rw [← hR]
    simp only [K4] at *
    omega
  obtain ⟨h1, h2⟩ := div_up hy hs hb hge
  rw [← hR] at h2
  refine ⟨?_, ?_⟩
  · rw [h1, hQ, pow_half hm0, Nat.add_mul, Nat.one_mul, Nat.mul_left_comm, Nat.mul_assoc]
  · rw [h2, hF]
    simp only [K4] at *
    omega
theorem round_down {x y m R Q E D : Nat} (hy : 0 < y) (hm0 : 0 < m) (hR : R = x / 2 ^ m % y) (hQ : Q = x / 2 ^ m / y * 2 ^ m) (hE : E = R * 2 ^ 1 % K4) (hD : D = E + x / 2 ^ (m - 1) % 2)
    (h1 : ¬ K4 ≤ 2 * R) (h2 : ¬ y ≤ D) : x / 2 ^ (m - 1) / y * 2 ^ (m - 1) = Q ∧ x / 2 ^ (m - 1) % y = D := by
  have hs := half_step x hm0
  have hb : x / 2 ^ (m - 1) % 2 < 2 := Nat.mod_lt _ (by decide)
  generalize hbb : x / 2 ^ (m - 1) % 2 = b at *
  have hD2 : D = 2 * R + b := by
    simp only [K4] at *
    omega
  obtain ⟨h3, h4⟩ := div_down hy hs (by rw [← hR, ← hD2]; omega)
  rw [← hR] at h4
  refine ⟨?_, by rw [h4, hD2]⟩
  rw [h3, hQ, pow_half hm0, Nat.mul_left_comm, Nat.mul_assoc]
end Go.Proofs.YtgbhiklengafiaaDoor
namespace Go.Proofs.YtgbhiklengafiaaDoor
open Go.RowKit
theorem of_fin {a : Nat} (ha : a < K) : (.agg #[.int .u64 (a : Int), .int .u64 0, .int .u64 0, .int .u64 0] : Value) = wv a := by
  exact wv_of (a := a) (b := 0) (c := 0) (d := 0) (x := a) ha (by decide) (by decide) (by decide) (by omega)
end Go.Proofs.YtgbhiklengafiaaDoor
namespace Go.Proofs.YtgbhiklengafiaaDoor
open Go.RowKit
section
variable {P : Program} {w0 w : World} {S : List Nat} {L : List Ent}
theorem run_idxRd {t len cap : Nat} {A : Option Addr} {k : IntKind} {i : Int} {j : Nat} {xs : List Value} (ht : slcOf P t = some 1) (hi : i = (j : Int)) (hr : RdS w A xs) (hx : xs.length = len) (hj : j < len) :
    (Instr.indexAt t (.slice A len cap) (.int k i)).run P w = .ok (.pointer (A.map (·.add j))) w := by
  obtain ⟨a, rfl, _⟩ := hr.cell (j := j) (List.getElem?_eq_getElem (by omega))
  rw [run_idxSl ht hi hj]
  simp
theorem run_ldRd {ty : TypeId} {A : Option Addr} {j : Nat} {v : Value} {xs : List Value} (hs : scal P ty = true) (hr : RdS w A xs) (hv : xs[j]? = some v) : (Instr.loadAt ty (.pointer (A.map (·.add j)))).run P w = .ok v w := by
  obtain ⟨a, rfl, h⟩ := hr.cell hv
  exact run_ld1 hs h
theorem by8_drop (bs : List UInt8) (k : Nat) : (by8 bs).drop k = by8 (bs.drop k) := by simp [by8]
theorem RdS.drop8 {A : Option Addr} {bs cs : List UInt8} {cap : Nat} (h : RdS w A (by8 bs)) (l : Nat) (hcap : bs.length ≤ cap) (hc : bs.drop l = cs) : RdS w (if cap = l then A else A.map (·.add l)) (by8 cs) := by
  have := h.drop (cap := cap) l (by rw [by8_length]; omega)
  rwa [by8_drop, hc] at this
theorem by8_at {bs : List UInt8} {j : Nat} {b : UInt8} (h : bs[j]? = some b) : (by8 bs)[j]? = some (.int .u8 (b.toNat : Int)) := by rw [by8_get, h]; rfl
theorem Hp.madeRow (H : Hp w0 S L w) (s : Sem Value) (f : Nat → Value) (cs : List Value) (t n c sz : Nat) (hs : nev P s = some (.cells cs.toArray t, fun r => some (f r))) (hn : n ≤ c) (hc : c ≤ maxLen) (hsz : cs.length = c * sz) :
    ∃ b w', s.run P w = .ok (f b) w' ∧ Hp w0 S (L ++ [.row (some ⟨b, 0, none⟩) n c t sz (cs.take (n * sz))]) w' :=
  ⟨w.heap.size, _, nev_run hs w _ rfl, Hp.blkRow (H.new cs t) (heap_alloc_new w _) hn hc hsz⟩
theorem Hp.rowLe (H : Hp w0 S L w) (i : Nat) {A : Option Addr} {n c e sz : Nat} {xs : List Value} (hL : L[i]? = some (.row A n c e sz xs)) : n ≤ c ∧ xs.length = n * sz ∧ c ≤ maxLen := by
  have h := H.rowAt i hL
  rcases h.2 with ⟨h0, hn⟩ | ⟨g, cap, cur, hv, _, hh, hnc, hm, hsz, ht⟩
  · refine ⟨by omega, h.1, ?_⟩
    injection h0 with _ _ hc
    subst hc
    exact Nat.zero_le _
  · injection hv with _ _ hc
    subst hc
    exact ⟨hnc, h.1, hm⟩
theorem Hp.rdRowN (H : Hp w0 S L w) (i : Nat) {A : Option Addr} {n c e sz : Nat} {xs : List Value} (hL : L[i]? = some (.row A n c e sz xs)) : RdS w A xs := by
  have h := H.rowAt i hL
  rcases h.2 with ⟨h0, hn⟩ | ⟨g, cap, cur, hv, _, hh, hnc, _, hsz, ht⟩
  · left
    have := h.1
    rw [hn, Nat.zero_mul] at this
    exact List.eq_nil_of_length_eq_zero this
  · injection hv with hA
    subst hA
    refine .inr ⟨_, rfl, (Array.getElem?_eq_some_iff.1 hh).1, fun j v hv => ?_⟩
    rw [addr_add]
    have hj : j < n * sz := by
      have := (List.getElem?_eq_some_iff.1 hv).1
      have := h.1
      omega
    rw [← ht, List.getElem?_take_of_lt (by omega)] at hv
    simp only [World.cell?, hh]
    simpa using hv
theorem Hp.stRow (H : Hp w0 S L w) (i : Nat) {A : Option Addr} {n c e sz q ty : Nat} {xs : List Value} {v : Value} (hL : L[i]? = some (.row A n c e sz xs)) (hs : scal P ty = true) (hq : q < xs.length) (h1 : v.oneCell' = true) :
    ∃ w', (Instr.storeAt ty (.pointer (A.map (·.add q))) v).run P w = .ok () w' ∧ Hp w0 S (L.set i (.row A n c e sz (xs.set q v))) w' := by
  have h := H.rowAt i hL
  rcases h.2 with ⟨h0, hn⟩ | ⟨g, cap, cur, hv, hbase, hh, hnc, hm, hsz, ht⟩
  · have := h.1
    rw [hn, Nat.zero_mul] at this
    omega
  · injection hv with hA _ hc
    subst hA
    have hql : q < n * sz := by rw [← h.1]; exact hq
    have hle : n * sz ≤ cap * sz := Nat.mul_le_mul_right _ hnc
    refine ⟨w.setCell ⟨g, q, none⟩ v, ?_, ?_⟩
    · have hcl : v.cells = #[v] := by cases v <;> simp_all [Value.cells, Value.oneCell']
      have hcc : w.cell? ⟨g, q, none⟩ = some xs[q] := by
        have h2 : xs[q]? = some xs[q] := List.getElem?_eq_getElem hq
        have h3 : w.cell? ⟨g, q, none⟩ = cur.toList[q]? := by simp [World.cell?, hh]
        rw [h3, ← h2, ← ht, List.getElem?_take_of_lt hql]
      have hfz : w.frozen? ⟨g, q, none⟩ = false := by simp [World.frozen?, hh]
      have hadd : (⟨g, 0, none⟩ : Addr).add q = ⟨g, q, none⟩ := by rw [addr_add]; simp
      have hadd0 : (⟨g, q, none⟩ : Addr).add 0 = ⟨g, q, none⟩ := rfl
      simp [Instr.storeAt, Instr.sureAddr, storeVar, run_sizeOf_scal hs, hcl, storeCells, hadd, hadd0, run_store P w _ v _ h1, hcc, hfz]
    · refine H.turn i hL rfl ?_ rfl rfl rfl (by simp [World.setCell]) (fun k _ hk => Below.heap_setCell w _ v k (by simpa [Ent.ids] using hk))
      refine ⟨by rw [List.length_set]; exact h.1, .inr ⟨g, cap, cur.set! q v, by rw [hc], hbase, ?_, by omega, hm, by simpa using hsz, ?_⟩⟩
      · simp [World.setCell, Array.getElem?_modify, hh]
      · rw [← ht]
        simp [List.take_set]
end
end Go.Proofs.YtgbhiklengafiaaDoor
namespace Go.Proofs.YtgbhiklengafiaaDoor
open Go.RowKit
abbrev MX : Nat := 4611686018427387904
def oneW (x : Nat) : Nat := if x < K then x else 0
theorem oneW_cases (x : Nat) : (x < K ∧ oneW x = x) ∨ (K ≤ x ∧ oneW x = 0) := by
  unfold oneW
  split
  · exact .inl ⟨by assumption, rfl⟩
  · exact .inr ⟨by omega, rfl⟩
def partQ (a u d : Nat) (m : Bool) : Nat := a * u / d + if m = true ∧ a * u % d ≠ 0 then 1 else 0
def partE (a u d : Nat) (m : Bool) : Nat := if MX < a then 1 else if d = 0 then 5 else if MX < partQ a u d m then 4 else 0
def partV (a u d : Nat) (m : Bool) : Nat := if partE a u d m = 0 then partQ a u d m else 0
theorem part_arg {a u d : Nat} {m : Bool} (h : MX < a) : partE a u d m = 1 ∧ partV a u d m = 0 := by
  have e : partE a u d m = 1 := by rw [partE, if_pos h]
  exact ⟨e, by rw [partV, e]; rfl⟩
theorem part_zero {a u d : Nat} {m : Bool} (h : ¬ MX < a) (hd : d = 0) : partE a u d m = 5 ∧ partV a u d m = 0 := by
  have e : partE a u d m = 5 := by rw [partE, if_neg h, if_pos hd]
  exact ⟨e, by rw [partV, e]; rfl⟩
theorem part_over {a u d : Nat} {m : Bool} (h : ¬ MX < a) (hd : d ≠ 0) (hq : MX < partQ a u d m) : partE a u d m = 4 ∧ partV a u d m = 0 := by
  have e : partE a u d m = 4 := by rw [partE, if_neg h, if_neg hd, if_pos hq]
  exact ⟨e, by rw [partV, e]; rfl⟩
theorem part_ok {a u d : Nat} {m : Bool} (h : ¬ MX < a) (hd : d ≠ 0) (hq : ¬ MX < partQ a u d m) : partE a u d m = 0 ∧ partV a u d m = partQ a u d m := by
  have e : partE a u d m = 0 := by rw [partE, if_neg h, if_neg hd, if_neg hq]
  exact ⟨e, by rw [partV, e]; rfl⟩
theorem partE_cases (a u d : Nat) (m : Bool) : (partE a u d m = 1 ∧ MX < a) ∨ (partE a u d m = 5 ∧ ¬ MX < a ∧ d = 0) ∨ (partE a u d m = 4 ∧ ¬ MX < a ∧ d ≠ 0 ∧ MX < partQ a u d m) ∨ (partE a u d m = 0 ∧ ¬ MX < a ∧ d ≠ 0 ∧ ¬ MX < partQ a u d m ∧ partV a u d m = partQ a u d m) := by
  by_cases h : MX < a
  · exact .inl ⟨(part_arg h).1, h⟩
  by_cases hd : d = 0
  · exact .inr (.inl ⟨(part_zero h hd).1, h, hd⟩)
  by_cases hq : MX < partQ a u d m
  · exact .inr (.inr (.inl ⟨(part_over h hd hq).1, h, hd, hq⟩))
  · exact .inr (.inr (.inr ⟨(part_ok h hd hq).1, h, hd, hq, (part_ok h hd hq).2⟩))
theorem partQ_down (a u d : Nat) : partQ a u d false = a * u / d := by simp [partQ]
theorem partQ_up (a u d : Nat) : partQ a u d true = a * u / d ∨ partQ a u d true = a * u / d + 1 := by
  unfold partQ
  split
  · exact .inr rfl
  · exact .inl rfl
theorem rounds (a b u d : Nat) :
    (partE a u d false = 0 → partE a u d true = 0 → partV a u d true = partV a u d false ∨ partV a u d true = partV a u d false + 1) ∧ (partE a u d true = 0 → partE a u d false = 0) ∧
    (partE a u d false = partE a u d true ∨ partE a u d true = 4) ∧ (partE a u d false = 0 → partE b u d false = 0 → a ≤ b → partV a u d false ≤ partV b u d false) := by
  have h1 := partE_cases a u d false
  have h2 := partE_cases a u d true
  have h3 := partE_cases b u d false
  have e1 := partQ_down a u d
  have e3 := partQ_down b u d
  have e2 := partQ_up a u d
  refine ⟨by omega, by omega, by omega, fun x y hab => ?_⟩
  have : a * u / d ≤ b * u / d := Nat.div_le_div_right (Nat.mul_le_mul_right _ hab)
  omega
theorem partQ_one {a u d : Nat} (h : a * u % d ≠ 0) : partQ a u d true = a * u / d + 1 := by rw [partQ, if_pos ⟨rfl, h⟩]
theorem partQ_none {a u d : Nat} (h : a * u % d = 0) : partQ a u d true = a * u / d := by rw [partQ, if_neg (fun q => q.2 h), Nat.add_zero]
theorem part_bound {a u d : Nat} (ha : a ≤ MX) (hu : u < K) : a * u / d + 1 < K4 := by
  have h1 : a * u ≤ MX * K := Nat.mul_le_mul ha (by omega)
  have h2 := Nat.div_le_self (a * u) d
  have h3 : MX * K + 1 < K4 := by decide
  omega
end Go.Proofs.YtgbhiklengafiaaDoor
namespace Go.Proofs.YtgbhiklengafiaaDoor
open Go.RowKit
def val : List Nat → Nat
  | [] => 0
  | d :: ds => d + 65536 * val ds
def ok16 (ds : List Nat) : Prop := ∀ d ∈ ds, d < 65536
def digsF : Nat → Nat → List Nat
  | 0, _ => []
  | f + 1, n => if n = 0 then [] else n % 65536 :: digsF f (n / 65536)
def digs (n : Nat) : List Nat := digsF n n
def dgt (n i : Nat) : Nat := n / 65536 ^ i % 65536
def ndg (n : Nat) : Nat := (digs n).length
theorem digsF_eq (f : Nat) : ∀ (g n : Nat), n ≤ f → n ≤ g → digsF f n = digsF g n := by
  induction f with
  | zero =>
    intro g n h _
    have : n = 0 := by omega
    subst this
    cases g <;> simp [digsF]
  | succ f ih =>
    intro g n h hg
    by_cases hn : n = 0
    · subst hn
      cases g <;> simp [digsF]
    · cases g with
      | zero => omega
      | succ g =>
        simp only [digsF, if_neg hn]
        rw [ih g (n / 65536) (by omega) (by omega)]
theorem digs_zero : digs 0 = [] := rfl
theorem digs_pos {n : Nat} (h : n ≠ 0) : digs n = n % 65536 :: digs (n / 65536) := by
  have e : digsF n n = n % 65536 :: digsF (n - 1) (n / 65536) := by
    obtain ⟨m, rfl⟩ : ∃ m, n = m + 1 := ⟨n - 1, by omega⟩
    simp only [digsF, if_neg h]
    rfl
  unfold digs
  rw [e, digsF_eq (n - 1) (n / 65536) (n / 65536) (by omega) (Nat.le_refl _)]
theorem ndg_lt {n i : Nat} : i < ndg n ↔ 65536 ^ i ≤ n := by
  unfold ndg
  induction i generalizing n with
  | zero =>
    by_cases h : n = 0
    · subst h
      simp [digs_zero]
    · rw [digs_pos h]
      simp
      omega
  | succ i ih =>
    by_cases h : n = 0
    · subst h
      have : 0 < 65536 ^ (i + 1) := Nat.pow_pos (by decide)
      simp only [digs_zero, List.length_nil]
      omega
    · rw [digs_pos h, List.length_cons, Nat.add_lt_add_iff_right, ih, Nat.le_div_iff_mul_le (by decide), Nat.pow_succ]
theorem ndg_le {n i : Nat} : ndg n ≤ i ↔ n < 65536 ^ i := by
  have := ndg_lt (n := n) (i := i)
  omega
theorem ndg_pow (n : Nat) : n < 65536 ^ ndg n := ndg_le.1 (Nat.le_refl _)
theorem digs_get {n i : Nat} (h : i < ndg n) : (digs n)[i]? = some (dgt n i) := by
  unfold ndg at h
  induction i generalizing n with
  | zero =>
    have h0 : n ≠ 0 := by
      intro h0
      subst h0
      simp [digs_zero] at h
    rw [digs_pos h0]
    simp [dgt]
  | succ i ih =>
    have h0 : n ≠ 0 := by
      intro h0
      subst h0
      simp [digs_zero] at h
    rw [digs_pos h0] at h ⊢
    rw [List.getElem?_cons_succ, ih (by simpa using h), dgt, dgt, Nat.div_div_eq_div_mul, Nat.pow_succ, Nat.mul_comm]
theorem dgt_zero {n i : Nat} (h : ndg n ≤ i) : dgt n i = 0 := by
  rw [dgt, Nat.div_eq_of_lt (ndg_le.1 h)]
theorem dgt_lt (n i : Nat) : dgt n i < 65536 := Nat.mod_lt _ (by decide)
theorem pow_pos16 (i : Nat) : 0 < 65536 ^ i := Nat.pow_pos (by decide)
theorem low_step (n i : Nat) : n % 65536 ^ (i + 1) = n % 65536 ^ i + 65536 ^ i * dgt n i := by rw [Nat.pow_succ, Nat.mod_mul, dgt]
theorem high_step (n i : Nat) : n / 65536 ^ i = 65536 * (n / 65536 ^ (i + 1)) + dgt n i := by
  rw [Nat.pow_succ, ← Nat.div_div_eq_div_mul, dgt]
  omega
theorem val_append (a b : List Nat) : val (a ++ b) = val a + 65536 ^ a.length * val b := by
  induction a with
  | nil => simp [val]
  | cons d a ih =>
    simp only [List.cons_append, val, List.length_cons]
    rw [ih, Nat.mul_add, Nat.pow_succ, Nat.mul_comm (65536 ^ a.length) 65536, Nat.mul_assoc, Nat.add_assoc]
theorem val_snoc (a : List Nat) (d : Nat) : val (a ++ [d]) = val a + 65536 ^ a.length * d := by
  rw [val_append]
  simp [val]
theorem ok_snoc {ds : List Nat} {d : Nat} (h : ok16 ds) (hd : d < 65536) : ok16 (ds ++ [d]) := by
  intro x hx
  rcases List.mem_append.1 hx with hx | hx
  · exact h x hx
  · rw [List.mem_singleton.1 hx]
    exact hd
theorem ok_nil : ok16 [] := fun d hd => by simp at hd
theorem ok_set {ds : List Nat} {j d : Nat} (h : ok16 ds) (hd : d < 65536) : ok16 (ds.set j d) := by
  intro x hx
  rcases List.mem_or_eq_of_mem_set hx with hx | rfl
  · exact h x hx
  · exact hd
theorem ok_zeros (n : Nat) : ok16 (List.replicate n 0) := by
  intro x hx
  rw [(List.mem_replicate.1 hx).2]
  decide
theorem val_zeros (n : Nat) : val (List.replicate n 0) = 0 := by
  induction n with
  | zero => rfl
  | succ n ih => rw [List.replicate_succ, val, ih]
theorem val_set {xs : List Nat} {j d v : Nat} (h : xs[j]? = some d) : val (xs.set j v) + 65536 ^ j * d = val xs + 65536 ^ j * v := by
  induction xs generalizing j with
  | nil => simp at h
  | cons x xs ih =>
    cases j with
    | zero =>
      simp at h
      subst h
      simp only [List.set_cons_zero, val, Nat.pow_zero, Nat.one_mul]
      omega
    | succ j =>
      have := ih (j := j) (by simpa using h)
      simp only [List.set_cons_succ, val, Nat.pow_succ]
      rw [Nat.mul_comm (65536 ^ j) 65536, Nat.mul_assoc, Nat.mul_assoc]
      omega
theorem val_take {ds : List Nat} {m d : Nat} (h : ds[m]? = some d) : val (ds.take (m + 1)) = val (ds.take m) + 65536 ^ m * d := by
  have hm : m < ds.length := (List.getElem?_eq_some_iff.1 h).1
  rw [List.take_add_one, h, Option.toList_some, val_snoc, List.length_take, Nat.min_eq_left (by omega)]
theorem digs_val {ds : List Nat} (hok : ok16 ds) (hl : ds = [] ∨ ∃ d, ds[ds.length - 1]? = some d ∧ d ≠ 0) : digs (val ds) = ds := by
  induction ds with
  | nil => rfl
  | cons d ds ih =>
    obtain ⟨e, he, he0⟩ := hl.resolve_left (by simp)
    have hd := hok d (List.mem_cons_self ..)
    by_cases hn : ds = []
    · subst hn
      simp at he
      subst he
      rw [digs_pos (by simp [val]; exact he0)]
      simp only [val, Nat.mul_zero, Nat.add_zero]
      rw [Nat.mod_eq_of_lt hd, Nat.div_eq_of_lt hd, digs_zero]
    · have hlen : 0 < ds.length := by
        cases ds with
        | nil => exact absurd rfl hn
        | cons _ _ => simp
      have h1 := ih (fun x hx => hok x (List.mem_cons_of_mem _ hx)) (.inr ⟨e, by rw [← he, List.length_cons, Nat.add_sub_cancel, show ds.length = (ds.length - 1) + 1 from by omega, List.getElem?_cons_succ, Nat.add_sub_cancel], he0⟩)
      have h0 : val ds ≠ 0 := by
        intro h0
        rw [h0, digs_zero] at h1
        exact hn h1.symm
      rw [val, digs_pos (by omega), show (d + 65536 * val ds) % 65536 = d from by omega, show (d + 65536 * val ds) / 65536 = val ds from by omega, h1]
theorem trimmed {ds : List Nat} {m : Nat} (hok : ok16 ds) (hm : m ≤ ds.length) (hv : val (ds.take m) = val ds) (hl : m = 0 ∨ ∃ d, ds[m - 1]? = some d ∧ d ≠ 0) : digs (val ds) = ds.take m ∧ ndg (val ds) = m := by
  have e : digs (val ds) = ds.take m := by
    rw [← hv]
    refine digs_val (fun x hx => hok x (List.mem_of_mem_take hx)) ?_
    rcases hl with rfl | ⟨d, hd, h0⟩
    · exact .inl rfl
    · by_cases hm0 : m = 0
      · subst hm0
        exact .inl rfl
      · refine .inr ⟨d, ?_, h0⟩
        rw [List.length_take, Nat.min_eq_left hm, List.getElem?_take_of_lt (by omega)]
        exact hd
  exact ⟨e, by rw [ndg, e, List.length_take, Nat.min_eq_left hm]⟩
theorem digs_take {ds : List Nat} (hok : ok16 ds) : ndg (val ds) ≤ ds.length ∧ digs (val ds) = ds.take (ndg (val ds)) := by
  have key : ∀ m, m ≤ ds.length → val (ds.take m) = val ds → ∃ k, k ≤ m ∧ val (ds.take k) = val ds ∧ (k = 0 ∨ ∃ d, ds[k - 1]? = some d ∧ d ≠ 0) := by
    intro m
    induction m with
    | zero => intro _ hv; exact ⟨0, Nat.le_refl _, hv, .inl rfl⟩
    | succ m ih =>
      intro hm hv
      obtain ⟨d, hd⟩ : ∃ d, ds[m]? = some d := ⟨_, List.getElem?_eq_getElem (by omega)⟩
      by_cases h0 : d = 0
      · subst h0
        rw [val_take hd, Nat.mul_zero, Nat.add_zero] at hv
        obtain ⟨k, h1, h2, h3⟩ := ih (by omega) hv
        exact ⟨k, by omega, h2, h3⟩
      · exact ⟨m + 1, Nat.le_refl _, hv, .inr ⟨d, by simpa using hd, h0⟩⟩
  obtain ⟨k, h1, h2, h3⟩ := key ds.length (Nat.le_refl _) (by rw [List.take_length])
  obtain ⟨e1, e2⟩ := trimmed hok h1 h2 h3
  rw [e2]
  exact ⟨h1, e1⟩
def dg (ds : List Nat) : List Value := ds.map fun d : Nat => Value.int .u64 (d : Int)
theorem dg_length (ds : List Nat) : (dg ds).length = ds.length := by simp [dg]
theorem dg_digs (n : Nat) : (dg (digs n)).length = ndg n := by rw [dg_length]; rfl
theorem dg_at {ds : List Nat} {j d : Nat} (h : ds[j]? = some d) : (dg ds)[j]? = some (.int .u64 (d : Int)) := by simp [dg, h]
theorem dg_append (a b : List Nat) : dg (a ++ b) = dg a ++ dg b := by simp [dg]
theorem dg_set (a : List Nat) (j d : Nat) : (dg a).set j (.int .u64 (d : Int)) = dg (a.set j d) := by simp [dg, List.map_set]
theorem dg_take (a : List Nat) (n : Nat) : (dg a).take n = dg (a.take n) := by simp [dg, List.map_take]
theorem dg_one (ds : List Nat) : ∀ v ∈ dg ds, v.oneCell' = true := by
  intro v hv
  simp [dg] at hv
  obtain ⟨b, _, rfl⟩ := hv
  rfl
theorem RdS.takeD {w : World} {A : Option Addr} {ds : List Nat} (h : RdS w A (dg ds)) (n : Nat) : RdS w A (dg (ds.take n)) := by
  rw [← dg_take]
  exact h.take n
theorem row_shrink {w : World} {A : Option Addr} {n c e m : Nat} {xs : List Value} (h : w.ownsRow 0 e 1 (.slice A n c) n xs) (hm : m ≤ n) : w.ownsRow 0 e 1 (.slice A m c) m (xs.take m) := by
  rcases h.2 with ⟨h0, hn⟩ | ⟨g, cap, cur, hv, hg, hh, hnc, hfz, hsz, ht⟩
  · injection h0 with h1 h2 h3
    subst h1 h2 h3
    have : m = 0 := by omega
    subst this
    refine ⟨by simp, .inl ⟨rfl, rfl⟩⟩
  · injection hv with h1 h2 h3
    subst h1 h3
    have hl := h.1
    rw [Nat.mul_one] at hl
    refine ⟨by rw [List.length_take]; omega, .inr ⟨g, c, cur, rfl, hg, hh, by omega, hfz, hsz, ?_⟩⟩
    rw [← ht, List.take_take, Nat.mul_one, Nat.mul_one, Nat.min_eq_left (by omega)]
theorem Hp.shrink {w0 w : World} {S : List Nat} {L : List Ent} (H : Hp w0 S L w) (i : Nat) {A : Option Addr} {n c e : Nat} {xs : List Value} (hL : L[i]? = some (.row A n c e 1 xs)) (m : Nat) (hm : m ≤ n) : Hp w0 S (L.set i (.row A m c e 1 (xs.take m))) w :=
  H.turn i hL rfl (row_shrink (H.rowAt i hL) hm) rfl rfl rfl (Nat.le_refl _) (fun _ _ _ => rfl)
theorem Hp.shrinkD {w0 w : World} {S : List Nat} {L : List Ent} (H : Hp w0 S L w) (i : Nat) {A : Option Addr} {n c e : Nat} {ds : List Nat} (hL : L[i]? = some (.row A n c e 1 (dg ds))) (hn : n = ds.length) (hok : ok16 ds) : Hp w0 S (L.set i (.row A (ndg (val ds)) c e 1 (dg (digs (val ds))))) w := by
  obtain ⟨h1, h2⟩ := digs_take hok
  have h := H.shrink i hL (ndg (val ds)) (by omega)
  rwa [dg_take, ← h2] at h
end Go.Proofs.YtgbhiklengafiaaDoor
namespace Go.Proofs.YtgbhiklengafiaaDoor
open Go.RowKit
theorem dgt_top {n i : Nat} (h : ndg n ≤ i) : n % 65536 ^ i = n := Nat.mod_eq_of_lt (ndg_le.1 h)
theorem add_round {a b i c : Nat} {xs : List Nat} (hl : xs.length = i) (hv : val xs + 65536 ^ i * c = a % 65536 ^ i + b % 65536 ^ i) :
    val (xs ++ [(c + dgt a i + dgt b i) % 65536]) + 65536 ^ (i + 1) * ((c + dgt a i + dgt b i) / 65536) = a % 65536 ^ (i + 1) + b % 65536 ^ (i + 1) := by
  rw [val_snoc, low_step, low_step, hl, Nat.pow_succ, Nat.mul_assoc, Nat.add_assoc, ← Nat.mul_add, Nat.mod_add_div, Nat.mul_add, Nat.mul_add]
  omega
theorem add_done {a b i : Nat} {xs : List Nat} (ha : ndg a ≤ i) (hb : ndg b ≤ i) (hv : val xs + 65536 ^ i * 0 = a % 65536 ^ i + b % 65536 ^ i) : val xs = a + b := by
  rw [dgt_top ha, dgt_top hb] at hv
  omega
theorem mul_round {a b i k c d t : Nat} {xs : List Nat} (hd : xs[i + k]? = some d) (ht : t = c + d + dgt a i * dgt b k)
    (hv : val xs + 65536 ^ (i + k) * c = a % 65536 ^ i * b + dgt a i * (65536 ^ i * (b % 65536 ^ k))) :
    val (xs.set (i + k) (t % 65536)) + 65536 ^ (i + (k + 1)) * (t / 65536) = a % 65536 ^ i * b + dgt a i * (65536 ^ i * (b % 65536 ^ (k + 1))) := by
  have hs := val_set (v := t % 65536) hd
  have e1 : 65536 ^ (i + (k + 1)) * (t / 65536) + 65536 ^ (i + k) * (t % 65536) = 65536 ^ (i + k) * t := by
    rw [← Nat.add_assoc, Nat.pow_succ, Nat.mul_assoc, ← Nat.mul_add, Nat.div_add_mod]
  have e2 : dgt a i * (65536 ^ i * (b % 65536 ^ (k + 1))) = dgt a i * (65536 ^ i * (b % 65536 ^ k)) + 65536 ^ (i + k) * (dgt a i * dgt b k) := by
    rw [low_step, Nat.mul_add, Nat.mul_add, Nat.pow_add]
    congr 1
    simp only [Nat.mul_assoc, Nat.mul_left_comm]
  have e3 : 65536 ^ (i + k) * t = 65536 ^ (i + k) * c + 65536 ^ (i + k) * d + 65536 ^ (i + k) * (dgt a i * dgt b k) := by rw [ht, Nat.mul_add, Nat.mul_add]
  omega
theorem mul_start {a b i : Nat} {xs : List Nat} (hv : val xs = a % 65536 ^ i * b) : val xs + 65536 ^ (i + 0) * 0 = a % 65536 ^ i * b + dgt a i * (65536 ^ i * (b % 65536 ^ 0)) := by
  rw [Nat.pow_zero, Nat.mod_one, hv]
  simp
theorem mul_whole {a b i k : Nat} (hk : ndg b ≤ k) : a % 65536 ^ i * b + dgt a i * (65536 ^ i * (b % 65536 ^ k)) = a % 65536 ^ (i + 1) * b := by
  rw [dgt_top hk, low_step, Nat.add_mul, ← Nat.mul_assoc, Nat.mul_comm (dgt a i)]
theorem mul_next {a b i k : Nat} {xs : List Nat} (hk : ndg b ≤ k) (hv : val xs + 65536 ^ (i + k) * 0 = a % 65536 ^ i * b + dgt a i * (65536 ^ i * (b % 65536 ^ k))) : val xs = a % 65536 ^ (i + 1) * b := by
  rw [mul_whole hk] at hv
  omega
theorem mul_in {a b i k c : Nat} {xs : List Nat} (hv : val xs + 65536 ^ (i + k) * c = a % 65536 ^ i * b + dgt a i * (65536 ^ i * (b % 65536 ^ k))) (h : k < ndg b ∨ 0 < c) : k ≤ ndg b := by
  by_cases hk : k < ndg b
  · omega
  · have hc : 0 < c := by omega
    rw [mul_whole (by omega)] at hv
    have h1 : a % 65536 ^ (i + 1) * b < 65536 ^ (i + 1) * 65536 ^ ndg b := Nat.mul_lt_mul'' (Nat.mod_lt _ (pow_pos16 _)) (ndg_pow b)
    rw [← Nat.pow_add] at h1
    have h2 : 65536 ^ (i + k) * 1 ≤ 65536 ^ (i + k) * c := Nat.mul_le_mul_left _ hc
    have h3 : 65536 ^ (i + k) < 65536 ^ (i + 1 + ndg b) := by omega
    have h4 := (Nat.pow_lt_pow_iff_right (by decide : 1 < 65536)).1 h3
    omega
theorem mul_small {c d x y : Nat} (hc : c < 65536) (hd : d < 65536) (hx : x < 65536) (hy : y < 65536) : x * y ≤ 4294836225 ∧ c + d + x * y < 4294967296 := by
  have : x * y ≤ 65535 * 65535 := Nat.mul_le_mul (by omega) (by omega)
  omega
theorem mul_done {a b i : Nat} {xs : List Nat} (hi : ndg a ≤ i) (hv : val xs = a % 65536 ^ i * b) : val xs = a * b := by rw [hv, dgt_top hi]
theorem word16 {p : Nat} (hp : p < K) : val [p / 2 ^ 0 % 65536, p / 2 ^ 16 % 65536, p / 2 ^ 32 % 65536, p / 2 ^ 48 % 65536] = p := by
  have e1 : p / 2 ^ 32 = p / 2 ^ 16 / 2 ^ 16 := by rw [Nat.div_div_eq_div_mul]
  have e2 : p / 2 ^ 48 = p / 2 ^ 16 / 2 ^ 16 / 2 ^ 16 := by rw [Nat.div_div_eq_div_mul, Nat.div_div_eq_div_mul]
  rw [e1, e2]
  simp only [val, Nat.pow_zero, Nat.div_one, Nat.mul_zero, Nat.add_zero]
  generalize hq : p / 2 ^ 16 = q
  generalize hr : q / 2 ^ 16 = r
  generalize hs : r / 2 ^ 16 = s
  simp only [K] at *
  omega
theorem words_digs {x : Nat} (hx : x < K4) {ds : List Nat} (hd : ds = [wd x 0 / 2 ^ 0 % 65536, wd x 0 / 2 ^ 16 % 65536, wd x 0 / 2 ^ 32 % 65536, wd x 0 / 2 ^ 48 % 65536] ++ ([wd x 1 / 2 ^ 0 % 65536, wd x 1 / 2 ^ 16 % 65536, wd x 1 / 2 ^ 32 % 65536, wd x 1 / 2 ^ 48 % 65536] ++
    ([wd x 2 / 2 ^ 0 % 65536, wd x 2 / 2 ^ 16 % 65536, wd x 2 / 2 ^ 32 % 65536, wd x 2 / 2 ^ 48 % 65536] ++ [wd x 3 / 2 ^ 0 % 65536, wd x 3 / 2 ^ 16 % 65536, wd x 3 / 2 ^ 32 % 65536, wd x 3 / 2 ^ 48 % 65536]))) : val ds = x ∧ ok16 ds := by
  constructor
  · have s := wd_sum x hx
    rw [hd, val_append, val_append, val_append, word16 (wd_lt x 0), word16 (wd_lt x 1), word16 (wd_lt x 2), word16 (wd_lt x 3)]
    simp only [List.length_cons, List.length_nil, Nat.zero_add, Nat.reduceAdd, Nat.reducePow]
    generalize wd x 0 = p0 at *
    generalize wd x 1 = p1 at *
    generalize wd x 2 = p2 at *
    generalize wd x 3 = p3 at *
    simp only [K] at *
    omega
  · intro y hy
    rw [hd] at hy
    simp only [List.mem_append, List.mem_cons, List.not_mem_nil, or_false] at hy
    rcases hy with (rfl | rfl | rfl | rfl) | (rfl | rfl | rfl | rfl) | (rfl | rfl | rfl | rfl) | rfl | rfl | rfl | rfl <;> exact Nat.mod_lt _ (by decide)
theorem n_rem (a k : Nat) : Int.tmod (a : Int) (k : Int) = ((a % k : Nat) : Int) := (Int.ofNat_tmod a k).symm
theorem n_quo {a : Nat} (k : Nat) (h : a < K) : IntKind.u64.wrap (Int.tdiv (a : Int) (k : Int)) = ((a / k : Nat) : Int) := by
  rw [← Int.ofNat_tdiv, IntKind.wrap_u64]
  have := Nat.div_le_self a k
  simp only [K] at h
  generalize a / k = q at *
  omega
theorem max_int (a b : Nat) : (if (b : Int) > (a : Int) then (b : Int) else (a : Int)) = ((max a b : Nat) : Int) := by
  split <;> omega
theorem cmp_high {a b p : Nat} (h : a / p < b / p) : a < b := by
  by_cases hh : a < b
  · exact hh
  · have := Nat.div_le_div_right (c := p) (show b ≤ a by omega)
    omega
theorem ok_at {ds : List Nat} (h : ok16 ds) {j d : Nat} (hd : ds[j]? = some d) : d < 65536 := h d (List.mem_of_getElem? hd)
theorem GL.againB {P : Program} {ops : Array Oper} {i n id : Nat} {M : FM} {w : World} {X : Type} {Mx : X → FM} {J : X → World → Prop} {μ : X → Nat} {x : X} {Q : Exit → Act → World → Prop}
    (x' : X) (ts : List Nat) (hi : Nat.ble ops.size i = true) (hp : pick ts M = some (Mx x')) (hμ : μ x' < μ x) (hJ : J x' w) : GL P ops (Exit.inBlock id (Exit.then (Again n Mx J μ x) Q)) i n M w :=
  GL.done hi fun F hF hM => (⟨x', hμ, hJ, F, rfl, hF, hM.pick hp⟩ : Again n Mx J μ x ⟨F, []⟩ w)
theorem ndg_K {a : Nat} (h : a < K) : ndg a ≤ 4 := ndg_le.2 (by
  have e : 65536 ^ 4 = K := by decide
  rw [e]
  exact h)
theorem ndg_add {a b i : Nat} (ha : ndg a ≤ i) (hb : ndg b ≤ i) : ndg (a + b) ≤ i + 1 := by
  have h1 := ndg_le.1 ha
  have h2 := ndg_le.1 hb
  refine ndg_le.2 ?_
  rw [Nat.pow_succ]
  omega
theorem ndg_mul {a b i j : Nat} (ha : ndg a ≤ i) (hb : ndg b ≤ j) : ndg (a * b) ≤ i + j := by
  refine ndg_le.2 ?_
  rw [Nat.pow_add]
  exact Nat.mul_lt_mul'' (ndg_le.1 ha) (ndg_le.1 hb)
section
variable {P : Program} {w0 w : World} {S : List Nat} {L : List Ent}
def u64Of (P : Program) (t : TypeId) : Option Nat :=
  match P.underlying t with
  | some (.slice e) => match P.info? e with
    | some i => match i.zero with
      | some (.int .u64 n) => if n = 0 ∧ i.size = 1 ∧ i.bytes = 8 then some e else none
      | _ => none
    | none => none
  | _ => none
theorem u64Of_spec {t e : Nat} (h : u64Of P t = some e) : ∃ i, P.underlying t = some (.slice e) ∧ P.info? e = some i ∧ i.zero = some (.int .u64 0) ∧ i.size = 1 ∧ i.bytes = 8 := by
  unfold u64Of at h
  split at h
  · rename_i e' he
    split at h
    · rename_i i hi
      split at h
      · rename_i n hn
        split at h
        · rename_i hc
          injection h with h
          subst h
          exact ⟨i, he, hi, by rw [hn, hc.1], hc.2.1, hc.2.2⟩
        · cases h
      · cases h
    · cases h
  · cases h
theorem made_zeros (n : Nat) : (madeCells (Value.int .u64 0).cells (n * 1)).toList = dg (List.replicate n 0) := by
  refine List.ext_getElem? (fun i => ?_)
  by_cases h : i < n
  · simp [madeCells, dg, h, Value.cells, Nat.mod_one]
  · simp [madeCells, dg, h, Value.cells]
theorem Hp.makeD (H : Hp w0 S L w) {t e n : Nat} {kl kc : IntKind} (ht : u64Of P t = some e) (hn : n ≤ 1099511627776) :
    ∃ b w', (Instr.makeSlice t (.int kl (n : Int)) (.int kc (n : Int))).run P w = .ok (.slice (some ⟨b, 0, none⟩) n n) w' ∧ Hp w0 S (L ++ [.row (some ⟨b, 0, none⟩) n n e 1 (dg (List.replicate n 0))]) w' := by
  obtain ⟨i, hu, hi, hz, hs, hb⟩ := u64Of_spec ht
  have hr := run_make (P := P) w t e i _ hu hi hz kl kc (n : Int) (n : Int) (by omega) (Int.le_refl _) (by rw [hb]; omega) (by omega)
  refine ⟨w.heap.size, _, hr, ?_⟩
  have H1 := H.new (dg (List.replicate n 0)) e
  have e1 : w.alloc (.cells (madeCells (Value.int .u64 0).cells ((n : Int).toNat * i.size)) e) = w.alloc (.cells (dg (List.replicate n 0)).toArray e) := by
    rw [hs, Int.toNat_natCast, ← made_zeros, Array.toArray_toList]
  rw [e1]
  have H2 := Hp.blkRow (b := w.heap.size) H1 (heap_alloc_new w _) (n := n) (c := n) (sz := 1) (Nat.le_refl _) (by simp only [maxLen]; omega) (by rw [dg_length]; simp)
  rwa [List.take_of_length_le (by rw [dg_length]; simp)] at H2
end
end Go.Proofs.YtgbhiklengafiaaDoor
namespace Go.Proofs.YtgbhiklengafiaaDoor
open Go.RowKit
def Cut (R : Option Addr) (whole : List UInt8) (A' : Option Addr) (rest : List UInt8) : Prop := ∀ W, RdS W R (by8 whole) → RdS W A' (by8 rest)
theorem Cut.refl (R : Option Addr) (whole : List UInt8) : Cut R whole R whole := fun _ h => h
theorem Cut.drop {R A' : Option Addr} {whole rest : List UInt8} {cap : Nat} (h : Cut R whole A' rest) (n : Nat) (hc : rest.length ≤ cap) : Cut R whole (if cap = n then A' else A'.map (·.add n)) (rest.drop n) := fun W hW => RdS.drop8 (h W hW) n hc rfl
end Go.Proofs.YtgbhiklengafiaaDoor
namespace Go.Proofs.YtgbhiklengafiaaDoor
open Go.RowKit
section
variable {P : Program} {w0 w w' : World} {S : List Nat} {L A' B' : List Ent}
def RdO (w : World) (S : List Nat) (A : Option Addr) (xs : List Value) : Prop :=
  ∀ W : World, w.heap.size ≤ W.heap.size → (∀ k, k < w.heap.size → k ∉ S → W.heap[k]? = w.heap[k]?) → RdS W A xs
theorem RdO.hp {A : Option Addr} {xs : List Value} (h : RdO w S A xs) (H : Hp w S L w') : RdS w' A xs := h w' H.size H.keep
theorem RdO.row (H : Hp w0 S (A' ++ B') w) (i : Nat) {R : Option Addr} {n c e : Nat} {xs : List Value} (hL : B'[i]? = some (.row R n c e 1 xs)) : RdO w (ids A') R xs := by
  have hr : RdS w R xs := RdS.row (H.ents _ (List.mem_append_right _ (List.mem_of_getElem? hL)))
  have hnd := H.nd
  rw [ids_append] at hnd
  obtain ⟨_, _, n3⟩ := List.nodup_append.1 hnd
  intro W hs hk
  rcases hr with h | ⟨a, hA, ha, hc⟩
  · exact .inl h
  · refine .inr ⟨a, hA, Nat.lt_of_lt_of_le ha hs, fun j v hv => ?_⟩
    have hb : (a.add j).block = a.block := add_block a j
    rw [World.cell?_of_block (w := w) (hk (a.add j).block (by rw [hb]; exact ha) (fun hin => ?_))]
    · exact hc j v hv
    · rw [hb] at hin
      exact n3 _ hin _ (ids_mem (List.mem_of_getElem? hL) (by subst hA; simp [Ent.ids])) rfl
end
end Go.Proofs.YtgbhiklengafiaaDoor
namespace Go.Proofs.YtgbhiklengafiaaDoor
open Go.RowKit
def dcF (acc : Nat) : List UInt8 → Nat
  | [] => acc
  | b :: r => dcF (acc * 10 + (b.toNat - 48)) r
def isDg (b : UInt8) : Prop := 48 ≤ b.toNat ∧ b.toNat ≤ 57
instance (b : UInt8) : Decidable (isDg b) := by unfold isDg; infer_instance
def dgOk (l : List UInt8) : Prop := l ≠ [] ∧ (l.length = 1 ∨ l.getD 0 0 ≠ 48) ∧ ∀ b ∈ l, isDg b
instance (l : List UInt8) : Decidable (dgOk l) := by unfold dgOk; infer_instance
def mpE (l : List UInt8) : Nat := if dgOk l then (if dcF 0 l ≤ 4611686018427387904 then 0 else 4) else 2
def mpV (l : List UInt8) : Nat := if dgOk l then (if dcF 0 l ≤ 4611686018427387904 then dcF 0 l else 0) else 0
theorem dcF_append (l : List UInt8) : ∀ (acc : Nat) (b : UInt8), dcF acc (l ++ [b]) = dcF acc l * 10 + (b.toNat - 48) := by
  induction l with
  | nil => intro acc b; rfl
  | cons a l ih => intro acc b; exact ih _ b
theorem dcF_ge (l : List UInt8) : ∀ acc, acc ≤ dcF acc l := by
  induction l with
  | nil => intro acc; exact Nat.le_refl _
  | cons a l ih => intro acc; exact Nat.le_trans (by omega) (ih (acc * 10 + (a.toNat - 48)))
theorem dcF_take {l : List UInt8} {i : Nat} {b : UInt8} (h : l[i]? = some b) : dcF 0 (l.take (i + 1)) = dcF 0 (l.take i) * 10 + (b.toNat - 48) := by
  rw [List.take_add_one, h]
  exact dcF_append _ _ _
theorem dcF_lt (l : List UInt8) : ∀ acc k, acc < 10 ^ k → (∀ b ∈ l, isDg b) → dcF acc l < 10 ^ (k + l.length) := by
  induction l with
  | nil => intro acc k h _; exact h
  | cons a l ih =>
    intro acc k h hd
    have ha := hd a List.mem_cons_self
    have h2 := ih (acc * 10 + (a.toNat - 48)) (k + 1) (by rw [Nat.pow_succ]; have := ha.2; omega) fun b hb => hd b (List.mem_cons_of_mem _ hb)
    rw [List.length_cons, show k + (l.length + 1) = k + 1 + l.length by omega]
    exact h2
theorem dcF_lt60 {l : List UInt8} (h : ∀ b ∈ l, isDg b) (hl : l.length ≤ 60) : dcF 0 l < 2 ^ 208 := by
  have h1 := dcF_lt l 0 0 (by decide) h
  have h2 : (10 : Nat) ^ (0 + l.length) ≤ 10 ^ 60 := Nat.pow_le_pow_right (by decide) (by omega)
  have h3 : (10 : Nat) ^ 60 < 2 ^ 208 := by decide
  omega
theorem pu_ok (l : List UInt8) : ∀ acc, (∀ b ∈ l, isDg b) → dcF acc l < 18446744073709551616 → Lib.parseUintM (2 ^ 64 - 1) acc l = .ok (dcF acc l) := by
  induction l with
  | nil => intro acc _ _; rfl
  | cons a l ih =>
    intro acc hd h
    have ha := hd a List.mem_cons_self
    have hg := dcF_ge l (acc * 10 + (a.toNat - 48))
    have h' : dcF (acc * 10 + (a.toNat - 48)) l < 18446744073709551616 := h
    have ha' : 48 ≤ a.toNat ∧ a.toNat ≤ 57 := ha
    rw [Lib.parseUintM, if_pos ha', if_neg (by omega), if_neg (by omega)]
    exact ih _ (fun b hb => hd b (List.mem_cons_of_mem _ hb)) h
theorem pu_range (l : List UInt8) : ∀ acc, acc < 18446744073709551616 → (∀ b ∈ l, isDg b) → 18446744073709551616 ≤ dcF acc l → Lib.parseUintM (2 ^ 64 - 1) acc l = .range := by
  induction l with
  | nil => intro acc h _ h2; exact absurd h (Nat.not_lt.2 h2)
  | cons a l ih =>
    intro acc hacc hd h
    have ha := hd a List.mem_cons_self
    have ha' : 48 ≤ a.toNat ∧ a.toNat ≤ 57 := ha
    rw [Lib.parseUintM, if_pos ha']
    by_cases h1 : 1844674407370955162 ≤ acc
    · rw [if_pos h1]
    · rw [if_neg h1]
      by_cases h2 : 2 ^ 64 - 1 < acc * 10 + (a.toNat - 48)
      · rw [if_pos h2]
      · rw [if_neg h2]
        exact ih _ (by omega) (fun b hb => hd b (List.mem_cons_of_mem _ hb)) h
theorem puB_ok {l : List UInt8} (h : dgOk l) (h2 : dcF 0 l < 18446744073709551616) : Lib.parseUintB 64 l = .ok (dcF 0 l) := by
  rw [Lib.parseUintB, if_neg h.1]
  exact pu_ok l 0 h.2.2 h2
theorem puB_range {l : List UInt8} (h : dgOk l) (h2 : 18446744073709551616 ≤ dcF 0 l) : Lib.parseUintB 64 l = .range := by
  rw [Lib.parseUintB, if_neg h.1]
  exact pu_range l 0 (by decide) h.2.2 h2
theorem byte_toNat {n : Nat} (h : n < 256) : (UInt8.ofNat n).toNat = n := by
  rw [UInt8.toNat_ofNat']
  exact Nat.mod_eq_of_lt h
theorem dd_step {u : Nat} (h : 10 ≤ u) : Lib.decDigits u = Lib.decDigits (u / 10) ++ [UInt8.ofNat (48 + u % 10)] := by
  rw [Lib.decDigits, dif_neg (by omega)]
theorem dd_one {u : Nat} (h : u < 10) : Lib.decDigits u = [UInt8.ofNat (48 + u)] := by
  rw [Lib.decDigits, dif_pos h]
theorem dd_all (u : Nat) : Lib.decDigits u ≠ [] ∧ (∀ b ∈ Lib.decDigits u, isDg b) ∧ dcF 0 (Lib.decDigits u) = u ∧ (1 ≤ u → (Lib.decDigits u).getD 0 0 ≠ 48) ∧ (u < 10 → (Lib.decDigits u).length = 1) := by
  induction u using Nat.strongRecOn with
  | _ u ih =>
    by_cases h : u < 10
    · rw [dd_one h]
      have e := byte_toNat (n := 48 + u) (by omega)
      refine ⟨by simp, fun b hb => ?_, ?_, fun h1 => ?_, fun _ => rfl⟩
      · have hb2 : b = UInt8.ofNat (48 + u) := List.mem_singleton.1 hb
        rw [hb2]
        exact (show 48 ≤ (UInt8.ofNat (48 + u)).toNat ∧ (UInt8.ofNat (48 + u)).toNat ≤ 57 by rw [e]; omega)
      · show 0 * 10 + ((UInt8.ofNat (48 + u)).toNat - 48) = u
        omega
      · show UInt8.ofNat (48 + u) ≠ 48
        intro h2
        have := congrArg UInt8.toNat h2
        rw [e] at this
        have h3 : (48 : UInt8).toNat = 48 := rfl
        omega
    · obtain ⟨h1, h2, h3, h4, _⟩ := ih (u / 10) (by omega)
      rw [dd_step (by omega)]
      have e := byte_toNat (n := 48 + u % 10) (by omega)
      refine ⟨by simp, fun b hb => ?_, ?_, fun _ => ?_, fun h5 => absurd h5 h⟩
      · rcases List.mem_append.1 hb with hb | hb
        · exact h2 b hb
        · rw [List.mem_singleton] at hb
          subst hb
          exact ⟨by omega, by omega⟩
      · rw [dcF_append, h3]
        omega
      · have hh := h4 (by omega)
        cases hc : Lib.decDigits (u / 10) with
        | nil => exact absurd hc h1
        | cons a r =>
          rw [hc] at hh
          exact hh
theorem dd_ok (u : Nat) : dgOk (Lib.decDigits u) := by
  obtain ⟨h1, h2, _, h4, h5⟩ := dd_all u
  refine ⟨h1, ?_, h2⟩
  by_cases h : u < 10
  · exact .inl (h5 h)
  · exact .inr (h4 (by omega))
theorem dd_val (u : Nat) : dcF 0 (Lib.decDigits u) = u := (dd_all u).2.2.1
theorem mpE_dd (u : Nat) : mpE (Lib.decDigits u) = if u ≤ 4611686018427387904 then 0 else 4 := by rw [mpE, if_pos (dd_ok u), dd_val]
theorem mpV_dd (u : Nat) : mpV (Lib.decDigits u) = if u ≤ 4611686018427387904 then u else 0 := by rw [mpV, if_pos (dd_ok u), dd_val]
theorem dd_len (u : Nat) (h : u < 18446744073709551616) : (Lib.decDigits u).length ≤ 20 := by
  have key : ∀ k u, u < 10 ^ (k + 1) → (Lib.decDigits u).length ≤ k + 1 := by
    intro k
    induction k with
    | zero => intro u h; rw [dd_one (by omega)]; exact Nat.le_refl _
    | succ k ih =>
      intro u h
      by_cases h1 : u < 10
      · rw [dd_one h1]
        exact Nat.le_add_left _ _
      · rw [dd_step (by omega), List.length_append]
        have := ih (u / 10) (by rw [Nat.pow_succ] at h; omega)
        show (Lib.decDigits (u / 10)).length + 1 ≤ k + 1 + 1
        omega
  exact key 19 u (Nat.lt_trans h (by decide))
theorem dd_back : ∀ (k : Nat) (l : List UInt8), l.length = k → dgOk l → Lib.decDigits (dcF 0 l) = l := by
  intro k
  induction k with
  | zero => intro l hl h; exact absurd (List.eq_nil_of_length_eq_zero hl) h.1
  | succ k ih =>
    intro l hl h
    obtain ⟨l', b, rfl⟩ : ∃ l' b, l = l' ++ [b] := ⟨l.dropLast, l.getLast h.1, (List.dropLast_concat_getLast h.1).symm⟩
    have hb := h.2.2 b (by simp)
    have hl' : l'.length = k := by simpa using hl
    have e8 : UInt8.ofNat (48 + (b.toNat - 48)) = b := UInt8.toNat_inj.1 (by rw [byte_toNat (by have := hb.2; omega)]; have := hb.1; omega)
    cases hc : l' with
    | nil =>
      have hv : dcF 0 ([] ++ [b]) = b.toNat - 48 := by
        show 0 * 10 + (b.toNat - 48) = b.toNat - 48
        omega
      rw [hv, dd_one (by have := hb.2; omega), e8]
      rfl
    | cons a r =>
      have hh : a ≠ 48 := by
        rcases h.2.1 with h1 | h1
        · rw [hc] at h1
          simp at h1
        · rw [hc] at h1
          exact h1
      have hd' : ∀ x ∈ l', isDg x := fun x hx => h.2.2 x (by simp [hx])
      have ok' : dgOk l' := ⟨by rw [hc]; simp, .inr (by rw [hc]; exact hh), hd'⟩
      have ha := hd' a (by rw [hc]; simp)
      have hpos : 1 ≤ dcF 0 l' := by
        rw [hc]
        have hg := dcF_ge r (0 * 10 + (a.toNat - 48))
        have : a.toNat ≠ 48 := fun h2 => hh (UInt8.toNat_inj.1 h2)
        have h3 := ha.1
        show 1 ≤ dcF (0 * 10 + (a.toNat - 48)) r
        omega
      have e := ih l' hl' ok'
      rw [← hc, dcF_append, dd_step (by omega)]
      have q1 : (dcF 0 l' * 10 + (b.toNat - 48)) / 10 = dcF 0 l' := by have := hb.2; omega
      have q2 : (dcF 0 l' * 10 + (b.toNat - 48)) % 10 = b.toNat - 48 := by have := hb.2; omega
      rw [q1, q2, e, e8]
theorem dd_back' {l : List UInt8} (h : dgOk l) : Lib.decDigits (dcF 0 l) = l := dd_back _ l rfl h
theorem take_dg {l : List UInt8} {i : Nat} {b : UInt8} (h : ∀ x ∈ l.take i, isDg x) (hb : l[i]? = some b) (hd : isDg b) : ∀ x ∈ l.take (i + 1), isDg x := by
  intro y hy
  rw [List.take_add_one, hb] at hy
  rcases List.mem_append.1 hy with h1 | h1
  · exact h y h1
  · simp at h1
    rw [h1]
    exact hd
def dgF (l : List UInt8) (i : Nat) : Prop := (l ≠ [] ∧ (l.length = 1 ∨ l.getD 0 0 ≠ 48)) ∧ ∀ x ∈ l.take i, isDg x
theorem dgF_all {l : List UInt8} {i : Nat} (h : l.length ≤ i) : dgF l i ↔ dgOk l := by
  unfold dgF
  rw [List.take_of_length_le h]
  exact ⟨fun h => ⟨h.1.1, h.1.2, h.2⟩, fun h => ⟨⟨h.1, h.2.1⟩, h.2.2⟩⟩
theorem dgF_step {l : List UInt8} {i : Nat} {b : UInt8} (h : l[i]? = some b) : dgF l (i + 1) ↔ dgF l i ∧ isDg b := by
  unfold dgF
  rw [List.take_add_one, h]
  constructor
  · intro hh
    exact ⟨⟨hh.1, fun x hx => hh.2 x (List.mem_append_left _ hx)⟩, hh.2 b (List.mem_append_right _ (by simp))⟩
  · rintro ⟨hh, hb⟩
    refine ⟨hh.1, fun x hx => ?_⟩
    rcases List.mem_append.1 hx with hx | hx
    · exact hh.2 x hx
    · simp at hx
      rw [hx]
      exact hb
theorem dgF_none {l : List UInt8} (h : l.length = 0) : (false = true) ↔ dgF l 0 := ⟨fun h => (by cases h), fun hh => absurd (List.eq_nil_of_length_eq_zero h) hh.1.1⟩
theorem dgF_one {l : List UInt8} (h : l.length = 1) : (true = true) ↔ dgF l 0 := ⟨fun _ => ⟨⟨fun hh => (by rw [hh] at h; cases h), .inl h⟩, fun x hx => by simp at hx⟩, fun _ => rfl⟩
theorem dgF_more {l : List UInt8} {b : UInt8} (h0 : l.length ≠ 0) (h : l.length ≠ 1) (hb : l[0]? = some b) : (((b.toNat : Int) != 48) = true) ↔ dgF l 0 := by
  have hg : l.getD 0 0 = b := by rw [List.getD_eq_getElem?_getD, hb]; rfl
  have h48 : (48 : UInt8).toNat = 48 := rfl
  rw [bne_iff_ne]
  unfold dgF
  rw [hg]
  constructor
  · intro hh
    refine ⟨⟨fun h1 => h0 (by rw [h1]; rfl), .inr fun h2 => hh ?_⟩, fun x hx => by simp at hx⟩
    rw [h2]
    rfl
  · rintro ⟨⟨_, h1 | h1⟩, _⟩
    · exact absurd h1 h
    · intro hh
      exact h1 (UInt8.toNat_inj.1 (by omega))
theorem cmpN_pos {x y : Nat} : 0 < cmpN x y ↔ y < x := by
  unfold cmpN
  split
  · omega
  · split <;> omega
end Go.Proofs.YtgbhiklengafiaaDoor
namespace Go.Proofs.YtgbhiklengafiaaDoor
open Go.RowKit
section
variable {P : Program} {ops : Array Oper} {Q : Exit → Act → World → Prop} {S S' : World → Prop} {i n : Nat} {M M' : FM} {w w' : World} {done : List Nat}
def lastB (ops : Array Oper) (k : Nat) : Bool := match ops[k]? with
  | some o => (List.range ops.size).all fun i => i == k || o.after.any fun e => Region.binds .any e && e.on == i
  | none => false
theorem lastB_spec {k : Nat} {o : Oper} (hk : ops[k]? = some o) (h : lastB ops k = true) (i : Nat) (hi : i < ops.size) (hne : i ≠ k) : ∃ e ∈ o.after, Region.binds .any e = true ∧ e.on = i := by
  unfold lastB at h
  rw [hk] at h
  have h1 := List.all_eq_true.1 h i (List.mem_range.2 hi)
  simp only [Bool.or_eq_true, beq_iff_eq, Array.any_eq_true', List.any_eq_true, Bool.and_eq_true] at h1
  rcases h1 with h1 | ⟨e, he, hb, ho⟩
  · exact absurd h1 hne
  · exact ⟨e, he, hb, ho⟩
def wpL (P : Program) (ops : Array Oper) (Q : Exit → Act → World → Prop) (S : World → Prop) : Nat → Array Bool → Act → World → Prop
  | 0, listed, a, w => Region.ready .any ops listed = [] ∧ Q .normal a w
  | fuel + 1, listed, a, w => (Region.ready .any ops listed = [] → Q .normal a w) ∧
    ∀ i ∈ Region.ready .any ops listed, wpOp P ops Q i (fun a' w' => (lastB ops i = false → S w') ∧ wpL P ops Q S fuel (listed.setIfInBounds i true) a' w') a w
theorem wpL_any : ∀ (fuel : Nat) (listed : Array Bool) (a : Act) (w : World), wpL P ops Q S fuel listed a w → wpAny P .any ops Q fuel listed a w
  | 0, _, _, _, h => h
  | fuel + 1, _, _, _, h => ⟨h.1, fun i hi => wpOp_mono (fun a' w' h' => wpL_any fuel _ a' w' h'.2) (h.2 i hi)⟩
theorem wpL_weak (hs : ∀ w, S' w → S w) : ∀ (fuel : Nat) (listed : Array Bool) (a : Act) (w : World), wpL P ops Q S' fuel listed a w → wpL P ops Q S fuel listed a w
  | 0, _, _, _, h => h
  | fuel + 1, _, _, _, h => ⟨h.1, fun i hi => wpOp_mono (fun a' w' h' => ⟨fun hl => hs _ (h'.1 hl), wpL_weak hs fuel _ a' w' h'.2⟩) (h.2 i hi)⟩
theorem wpL_first {i : Nat} {oi : Oper} {v : Value} (hi : ops[i]? = some oi) (hsel : Region.noSelect ops = true) (hQ : ∀ c a w, Q (.panic c) (a.put oi.dst v) w → Q (.panic c) a w) :
    ∀ (fuel : Nat) (listed : Array Bool) (a : Act) (w : World),
      (∀ j oj, ops[j]? = some oj → j ≠ i → listed.getD j true = false → (∀ e ∈ oj.after, Region.binds .any e = true → e.on ≠ i) → oi.apart ops oj = true) →
      i ∈ Region.ready .any ops listed → YieldsIf P ops S oi v a → S w → wpL P ops Q S fuel (listed.setIfInBounds i true) (a.put oi.dst v) w → wpL P ops Q S (fuel + 1) listed a w := by
  intro fuel
  induction fuel with
  | zero =>
    intro listed a w _ hr hy hS H
    refine ⟨fun h => (by rw [h] at hr; cases hr), fun j hj => ?_⟩
    by_cases hji : j = i
    · subst hji
      exact hy.wpOp hi hS ⟨fun _ => hS, H⟩
    · have := ready_mono hj hji
      rw [H.1] at this
      cases this
  | succ fuel ih =>
    intro listed a w hfree hr hy hS H
    refine ⟨fun h => (by rw [h] at hr; cases hr), fun j hj => ?_⟩
    by_cases hji : j = i
    · subst hji
      exact hy.wpOp hi hS ⟨fun _ => hS, H⟩
    · obtain ⟨hjun, oj, hoj, hall⟩ := mem_ready.1 hj
      obtain ⟨hiun, _⟩ := mem_ready.1 hr
      have hun : ∀ d, listed.getD i d = false → i < listed.size := fun d h0 => by
        rcases Nat.lt_or_ge i listed.size with h' | h'
        · exact h'
        · cases d
          · simp only [Array.getD_eq_getD_getElem?, Array.getElem?_eq_none h', Option.getD_none] at hiun
            cases hiun
          · simp only [Array.getD_eq_getD_getElem?, Array.getElem?_eq_none h', Option.getD_none] at h0
            cases h0
      have hsz := hun true hiun
      have hif : listed.getD i false = false := by
        simp only [Array.getD_eq_getD_getElem?, Array.getElem?_eq_getElem hsz, Option.getD_some] at hiun ⊢
        exact hiun
      have hnot : ∀ e ∈ oj.after, Region.binds .any e = true → e.on ≠ i := fun e he hb heq => by
        have h1 := hall e he hb
        rw [heq, hif] at h1
        cases h1
      have hnl : lastB ops j = false := by
        cases hl : lastB ops j
        · rfl
        · obtain ⟨e, he, hb, ho⟩ := lastB_spec hoj hl i (Array.getElem?_eq_some_iff.1 hi).1 (fun h => hji h.symm)
          exact absurd ho (hnot e he hb)
      have h2 := wpOp_putIf hoj (hfree j oj hoj hji hjun hnot) (fun cs b => Region.noSelect_spec hsel i oi cs b hi) (fun cs b => Region.noSelect_spec hsel j oj cs b hoj) hQ hy (H.2 j (ready_mono hj hji))
      have hfree' : ∀ k ok, ops[k]? = some ok → k ≠ i → (listed.setIfInBounds j true).getD k true = false → (∀ e ∈ ok.after, Region.binds .any e = true → e.on ≠ i) → oi.apart ops ok = true := fun k ok hk hki hku hno => by
        refine hfree k ok hk hki ?_ hno
        by_cases hjk : j = k
        · subst hjk
          exact hjun
        · rwa [getD_set_ne true hjk] at hku
      refine wpOp_mono (fun a' w' h3 => ⟨h3.2.1, ih (listed.setIfInBounds j true) a' w' hfree' (ready_mono hr (fun h => hji h.symm)) h3.1 (h3.2.1 hnl) ?_⟩) h2
      rw [Array.setIfInBounds_comm _ _ hji]
      exact h3.2.2
theorem wpL_take {i : Nat} {oi : Oper} {v : Value} {fuel : Nat} {listed : Array Bool} {a : Act} {w : World} (hi : ops[i]? = some oi) (hs : Region.noSelect ops = true) (hf : Region.free .any ops listed i = true) (hr : (Region.ready .any ops listed).contains i = true)
    (hQ : ∀ c a w, Q (.panic c) (a.put oi.dst v) w → Q (.panic c) a w) (hy : YieldsIf P ops S oi v a) (hS : S w) (h : wpL P ops Q S fuel (listed.setIfInBounds i true) (a.put oi.dst v) w) : wpL P ops Q S (fuel + 1) listed a w :=
  wpL_first hi hs hQ fuel listed a w (Region.free_spec hi hf) (by simpa using hr) hy hS h
theorem wpL_all {rs : List Nat} {fuel : Nat} {listed : Array Bool} {a : Act} {w : World} (hr : Region.ready .any ops listed = rs) (hne : rs ≠ [])
    (h : ∀ i ∈ rs, wpOp P ops Q i (fun a' w' => S w' ∧ wpL P ops Q S fuel (listed.setIfInBounds i true) a' w') a w) : wpL P ops Q S (fuel + 1) listed a w :=
  ⟨fun h0 => absurd (hr ▸ h0) hne, fun i hi => wpOp_mono (fun _ _ h' => ⟨fun _ => h'.1, h'.2⟩) (h i (hr ▸ hi))⟩
theorem wpL_done {listed : Array Bool} {a : Act} {w : World} (hr : Region.ready .any ops listed = []) (h : Q .normal a w) : ∀ fuel, wpL P ops Q S fuel listed a w
  | 0 => ⟨hr, h⟩
  | _ + 1 => ⟨fun _ => h, by rw [hr]; simp⟩
def lsD (N : Nat) (done : List Nat) : Array Bool := done.foldl (fun a i => a.setIfInBounds i true) (Array.replicate N false)
theorem lsD_snoc (N : Nat) (done : List Nat) (i : Nat) : lsD N (done ++ [i]) = (lsD N done).setIfInBounds i true := by simp [lsD]
def may (ops : Array Oper) (done : List Nat) (i : Nat) : Bool := (Region.ready .any ops (lsD ops.size done)).contains i && Region.free .any ops (lsD ops.size done) i
def GP (P : Program) (ops : Array Oper) (Q : Exit → Act → World → Prop) (S : World → Prop) (done : List Nat) (n : Nat) (M : FM) (w : World) : Prop :=
  ∀ F : Array Value, F.size = n → Fits F M → Region.noSelect ops = true → (∀ c (a : Act) d v w, Q (.panic c) (a.put d v) w → Q (.panic c) a w) →
    ∀ fuel, wpL P ops Q S (fuel + (ops.size - done.length)) (lsD ops.size done) ⟨F, []⟩ w
theorem GP.take {o : Oper} {v : Value} (hS : S w) (ho : ops[i]? = some o) (hm : may ops done i = true) (hl : done.length < ops.size) (hy : ∀ F : Array Value, F.size = n → Fits F M → YieldsIf P ops S o v ⟨F, []⟩) (hp : putM n M o.dst v = some M')
    (h : GP P ops Q S (done ++ [i]) n M' w) : GP P ops Q S done n M w := by
  intro F hF hM hsel hQ fuel
  simp only [may, Bool.and_eq_true] at hm
  have hp' := hM.put (d := o.dst) (v := v) (M' := M') (by rw [hF]; exact hp)
  have e : fuel + (ops.size - done.length) = (fuel + (ops.size - (done ++ [i]).length)) + 1 := by simp; omega
  rw [e]
  refine wpL_take ho hsel hm.2 hm.1 (fun c a w h => hQ c a _ _ w h) (hy F hF hM) hS ?_
  rw [hp'.2.2, ← lsD_snoc]
  exact h _ (by rw [hp'.2.1, hF]) hp'.1 hsel hQ fuel
def batchP (P : Program) (ops : Array Oper) (n : Nat) : List Nat → List Nat → FM → Option FM
  | _, [], M => some M
  | done, i :: r, M =>
    match ops[i]? with
    | none => none
    | some o => if may ops done i && Nat.blt done.length ops.size then
        match gdM ops M o with
        | none => none
        | some false => match putM n M o.dst undef with
          | some M1 => batchP P ops n (done ++ [i]) r M1
          | none => none
        | some true => if known M o then match opPev P M o with
            | some v => match putM n M o.dst v with
              | some M1 => batchP P ops n (done ++ [i]) r M1
              | none => none
            | none => none
          else none
      else none
theorem GP.batch_ (hS : S w) : ∀ {r done : List Nat} {M M' : FM}, batchP P ops n done r M = some M' → GP P ops Q S (done ++ r) n M' w → GP P ops Q S done n M w
  | [], done, M, M', hb, h => by
    simp [batchP] at hb
    subst hb
    simpa using h
  | i :: r, done, M, M', hb, h => by
    have h' : GP P ops Q S ((done ++ [i]) ++ r) n M' w := by rwa [List.append_assoc]
    unfold batchP at hb
    split at hb
    · cases hb
    · rename_i o ho
      split at hb
      · rename_i hc
        simp only [Bool.and_eq_true] at hc
        have hl : done.length < ops.size := by simpa [Nat.blt_eq] using hc.2
        split at hb
        · cases hb
        · rename_i hg
          split at hb
          · rename_i M1 hp
            exact GP.take hS ho hc.1 hl (fun F hF hM => .inr ⟨gdM_fits hM hg, rfl⟩) hp (GP.batch_ hS hb h')
          · cases hb
        · rename_i hg
          split at hb
          · rename_i hk
            split at hb
            · rename_i v hv
              split at hb
              · rename_i M1 hp
                refine GP.take hS ho hc.1 hl (fun F hF hM => .inl ⟨gdM_fits hM hg, fun w _ => ?_⟩) hp (GP.batch_ hS hb h')
                rw [known_exec hM hk]
                unfold opPev at hv
                split at hv
                · rename_i u hu
                  injection hv with hv
                  subst hv
                  exact pev_run hu w
                · cases hv
              · cases hb
            · cases hb
          · cases hb
      · cases hb
theorem GP.fit {ts : List Nat} (hp : pick ts M = some M') (h : GP P ops Q S done n M' w) : GP P ops Q S done n M w := fun F hF hM => h F hF (hM.pick hp)
theorem GP.run (r : List Nat) (ts : List Nat) (M' : FM) (done' : List Nat) (hb : (batchP P ops n done r M).bind (pick ts) = some M') (hj : done ++ r = done') (hS : S w) (h : GP P ops Q S done' n M' w) : GP P ops Q S done n M w := by
  subst hj
  cases hm : batchP P ops n done r M with
  | none => rw [hm] at hb; cases hb
  | some M1 =>
    rw [hm] at hb
    exact GP.batch_ hS hm (GP.fit hb h)
theorem GP.weak (S' : World → Prop) (hs : ∀ w, S' w → S w) (h : GP P ops Q S' done n M w) : GP P ops Q S done n M w := fun F hF hM hsel hQ fuel => wpL_weak hs _ _ _ _ (h F hF hM hsel hQ fuel)
def mayB (ops : Array Oper) (done : List Nat) (i : Nat) : Bool := may ops done i && Nat.blt done.length ops.size
theorem GP.semN {s : Sem Next} {v : Value} (i : Nat) (hr : ∀ w, S w → s.run P w = .ok (.value v) w) (ts : List Nat) (M' : FM) (hs : semAt ops M i = some s) (hp : (putM n M (dstAt ops i) v).bind (pick ts) = some M')
    (hm : mayB ops done i = true) (hS : S w) (h : GP P ops Q S (done ++ [i]) n M' w) : GP P ops Q S done n M w := by
  simp only [mayB, Bool.and_eq_true] at hm
  obtain ⟨o, ho, hg, hk, he, hd⟩ := semAt_spec hs
  obtain ⟨M1, h1, h2⟩ := putM_bind hp
  rw [hd] at h1
  exact GP.take hS ho hm.1 (by simpa [Nat.blt_eq] using hm.2) (fun F hF hM => .inl ⟨gdM_fits hM hg, fun w hw => by rw [known_exec hM hk, he]; exact hr w hw⟩) h1 (GP.fit h2 h)
theorem GP.sem {s : Sem Value} {v : Value} (i : Nat) (hr : ∀ w, S w → s.run P w = .ok v w) (ts : List Nat) (M' : FM) (hs : semAt ops M i = some (vN s)) (hp : (putM n M (dstAt ops i) v).bind (pick ts) = some M')
    (hm : mayB ops done i = true) (hS : S w) (h : GP P ops Q S (done ++ [i]) n M' w) : GP P ops Q S done n M w :=
  GP.semN i (fun w hw => by simp [vN, hr w hw]) ts M' hs hp hm hS h
def oneB (ops : Array Oper) (done : List Nat) (i : Nat) : Bool := decide (Region.ready .any ops (lsD ops.size done) = [i]) && Nat.blt done.length ops.size
theorem GP.all {o : Oper} (i : Nat) (hone : oneB ops done i = true) (ho : ops[i]? = some o) (hg : gdM ops M o = some true)
    (h : ∀ F : Array Value, F.size = n → Fits F M → Region.noSelect ops = true → (∀ c (a : Act) d v w, Q (.panic c) (a.put d v) w → Q (.panic c) a w) → ∀ fuel,
      Oper.wp P o ⟨F, []⟩ w (fun a' w' => S w' ∧ wpL P ops Q S (fuel + (ops.size - (done ++ [i]).length)) (lsD ops.size (done ++ [i])) a' w') Q) : GP P ops Q S done n M w := by
  intro F hF hM hsel hQ fuel
  simp only [oneB, Bool.and_eq_true, decide_eq_true_eq] at hone
  have hl : done.length < ops.size := by simpa [Nat.blt_eq] using hone.2
  have e : fuel + (ops.size - done.length) = (fuel + (ops.size - (done ++ [i]).length)) + 1 := by simp; omega
  rw [e]
  refine wpL_all hone.1 (by simp) fun k hk => ?_
  simp at hk
  subst hk
  unfold wpOp
  simp only [ho]
  rw [gdM_fits hM hg, if_pos rfl, ← lsD_snoc]
  exact .inl (h F hF hM hsel hQ fuel)
theorem GP.semU {s : Sem Unit} (i : Nat) (hr : s.run P w = .ok () w') (ts : List Nat) (M' : FM) (hs : semAt ops M i = some (uN s)) (hd : dstAt ops i = none) (hp : pick ts M = some M')
    (hone : oneB ops done i = true) (hS : S w') (h : GP P ops Q S (done ++ [i]) n M' w') : GP P ops Q S done n M w := by
  obtain ⟨o, ho, hg, hk, he, hd'⟩ := semAt_spec hs
  rw [hd] at hd'
  refine GP.all i hone ho hg fun F hF hM hsel hQ fuel => ?_
  unfold Oper.wp
  rw [known_exec hM hk, he]
  have : (uN s).run P w = .ok .skip w' := by simp [uN, hr]
  rw [this]
  show S w' ∧ _
  rw [← hd']
  exact ⟨hS, h F hF (hM.pick hp) hsel hQ fuel⟩
theorem GP.call {f : FuncId} {args : Array Value} {R : Ending → World → Prop} (i : Nat) (hc : Calls P f args w R) (hs : (semAt ops M i).bind (pev P) = some (.enter f args)) (hone : oneB ops done i = true)
    (h : ∀ e w', R e w' → ∃ v, e = .returned v ∧ S w' ∧ ∃ ts M', (putM n M (dstAt ops i) v).bind (pick ts) = some M' ∧ GP P ops Q S (done ++ [i]) n M' w') : GP P ops Q S done n M w := by
  cases hsm : semAt ops M i with
  | none => rw [hsm] at hs; cases hs
  | some s =>
    rw [hsm] at hs
    obtain ⟨o, ho, hg, hk, he, hd⟩ := semAt_spec hsm
    refine GP.all i hone ho hg fun F hF hM hsel hQ fuel => ?_
    unfold Oper.wp
    rw [known_exec hM hk, he, pev_run hs w]
    show Calls P f args w _
    refine hc.mono fun e w' hR => ?_
    obtain ⟨v, rfl, hS, ts, M', hp, hG⟩ := h e w' hR
    obtain ⟨M1, h1, h2⟩ := putM_bind hp
    rw [hd] at h1
    have hp' := hM.put (d := o.dst) (v := v) (M' := M1) (by rw [hF]; exact h1)
    show S w' ∧ _
    rw [hp'.2.2]
    exact ⟨hS, hG _ (by rw [hp'.2.1, hF]) (hp'.1.pick h2) hsel hQ fuel⟩
theorem GP.fin (hi : Region.ready .any ops (lsD ops.size done) = []) (h : ∀ F : Array Value, F.size = n → Fits F M → Q .normal ⟨F, []⟩ w) : GP P ops Q S done n M w :=
  fun F hF hM _ _ fuel => wpL_done hi (h F hF hM) _
theorem GP.k {Q' : Exit → Act → World → Prop} {K : Act → World → Prop} {b : Code} (hi : Region.ready .any ops (lsD ops.size done) = []) (hK : ∀ a w, b.wp P Q' a w → K a w) (hq : ∀ a w, K a w → Q .normal a w)
    (h : G P b Q' n M w) : GP P ops Q S done n M w := GP.fin hi fun F hF hM => hq _ _ (hK _ _ (h F hF hM))
theorem G.heldP {id : Nat} (S : World → Prop) (hm : P.follows .mixedOrders = true) (hB : Region.noSelect ops = true) (hQ : ∀ c (a : Act) d v w, Q (.panic c) (a.put d v) w → Q (.panic c) a w)
    (h : GP P ops Q S [] n M { w with drawn := w.drawn + 1 }) : G P (.region id ops true) Q n M w := fun F hF hM =>
  wp_region_any hm (wpL_any _ _ _ _ (by simpa [lsD] using h F hF hM hB hQ 0))
def Hd (w0 : World) (L : List Ent) (w : World) : Prop := Below w0.heap.size w0 w ∧ Holds L w
theorem Hd.hp {w0 : World} {L : List Ent} (h : Hd w0 L w) {A : Option Addr} {xs : List Value} (hr : RdS w0 A xs) : RdS w A xs := hr.below h.1
theorem Hd.ld {w0 : World} {L : List Ent} (H : Hd w0 L w) (i : Nat) {b o : Nat} {cs : List Value} {t ty : TypeId} {v : Value} (hL : L[i]? = some (.blk b cs t)) (hs : scal P ty = true) (hv : cs[o]? = some v) :
    (Instr.loadAt ty (.pointer (some ⟨b, o, none⟩))).run P w = .ok v w := H.2.ld i hL hs hv
theorem Hd.ldA {w0 : World} {L : List Ent} (H : Hd w0 L w) (i : Nat) {b o : Nat} {cs sub : List Value} {t ty m : TypeId} (hL : L[i]? = some (.blk b cs t)) (hs : aggSz P ty = some m) (hsub : (cs.drop o).take m = sub) (hl : sub.length = m) :
    (Instr.loadAt ty (.pointer (some ⟨b, o, none⟩))).run P w = .ok (.agg sub.toArray) w := H.2.ldA i hL hs hsub hl
theorem row_rd {A : Option Addr} {n c e sz : Nat} {xs : List Value} (h : w.ownsRow 0 e sz (.slice A n c) n xs) : RdS w A xs := by
  have H : Hp w [] [.row A n c e sz xs] w → RdS w A xs := fun H => H.rdRowN 0 rfl
  rcases h.2 with ⟨h0, hn⟩ | ⟨g, cap, cur, hv, _, hh, hnc, _, hsz, ht⟩
  · left
    have := h.1
    rw [hn, Nat.zero_mul] at this
    exact List.eq_nil_of_length_eq_zero this
  · injection hv with hA
    subst hA
    refine .inr ⟨_, rfl, (Array.getElem?_eq_some_iff.1 hh).1, fun j v hv => ?_⟩
    rw [addr_add]
    have hj : j < n * sz := by
      have := (List.getElem?_eq_some_iff.1 hv).1
      have := h.1
      omega
    rw [← ht, List.getElem?_take_of_lt (by omega)] at hv
    simp only [World.cell?, hh]
    simpa using hv
theorem Hd.rdRow {w0 : World} {L : List Ent} (H : Hd w0 L w) (i : Nat) {A : Option Addr} {n c e sz : Nat} {xs : List Value} (hL : L[i]? = some (.row A n c e sz xs)) : RdS w A xs := row_rd (H.2 _ (List.mem_of_getElem? hL))
end
end Go.Proofs.YtgbhiklengafiaaDoor
namespace Go.Proofs.YtgbhiklengafiaaDoor
open Go.RowKit
section
variable {P : Program} {ops : Array Oper} {Q : Exit → Act → World → Prop} {S : World → Prop} {i n : Nat} {M M' : FM} {w w' : World} {done : List Nat}
def GO (P : Program) (ops : Array Oper) (Q : Exit → Act → World → Prop) (S : World → Prop) (done : List Nat) (i n : Nat) (M : FM) (w : World) : Prop :=
  ∀ F : Array Value, F.size = n → Fits F M → Region.noSelect ops = true → (∀ c (a : Act) d v w, Q (.panic c) (a.put d v) w → Q (.panic c) a w) → ∀ fuel,
    wpOp P ops Q i (fun a' w' => S w' ∧ wpL P ops Q S (fuel + (ops.size - (done ++ [i]).length)) (lsD ops.size (done ++ [i])) a' w') ⟨F, []⟩ w
def rdyB (ops : Array Oper) (done rs : List Nat) : Bool := decide (Region.ready .any ops (lsD ops.size done) = rs) && !rs.isEmpty && Nat.blt done.length ops.size
theorem GP.alls (rs : List Nat) (hr : rdyB ops done rs = true) (h : ∀ i ∈ rs, GO P ops Q S done i n M w) : GP P ops Q S done n M w := by
  intro F hF hM hsel hQ fuel
  simp only [rdyB, Bool.and_eq_true, decide_eq_true_eq] at hr
  have hl : done.length < ops.size := by simpa [Nat.blt_eq] using hr.2
  refine (show wpL P ops Q S (fuel + (ops.size - done.length)) (lsD ops.size done) ⟨F, []⟩ w from ?_)
  have e : ∀ i, fuel + (ops.size - done.length) = (fuel + (ops.size - (done ++ [i]).length)) + 1 := fun i => by simp; omega
  rw [e 0]
  refine wpL_all hr.1.1 (by intro h0; rw [h0] at hr; simp at hr) fun k hk => ?_
  have := h k hk F hF hM hsel hQ fuel
  rw [lsD_snoc] at this
  simpa using this
theorem GP.all2 (i j : Nat) (hr : rdyB ops done [i, j] = true) (h1 : GO P ops Q S done i n M w) (h2 : GO P ops Q S done j n M w) : GP P ops Q S done n M w :=
  GP.alls _ hr fun k hk => by
    simp only [List.mem_cons, List.not_mem_nil, or_false] at hk
    rcases hk with rfl | rfl <;> assumption
theorem GP.all1 (i : Nat) (hr : rdyB ops done [i] = true) (h1 : GO P ops Q S done i n M w) : GP P ops Q S done n M w :=
  GP.alls _ hr fun k hk => by
    simp only [List.mem_cons, List.not_mem_nil, or_false] at hk
    subst hk
    assumption
theorem GO.of {o : Oper} (ho : ops[i]? = some o) (hg : gdM ops M o = some true)
    (h : ∀ F : Array Value, F.size = n → Fits F M → Region.noSelect ops = true → (∀ c (a : Act) d v w, Q (.panic c) (a.put d v) w → Q (.panic c) a w) → ∀ fuel,
      Oper.wp P o ⟨F, []⟩ w (fun a' w' => S w' ∧ wpL P ops Q S (fuel + (ops.size - (done ++ [i]).length)) (lsD ops.size (done ++ [i])) a' w') Q) : GO P ops Q S done i n M w := by
  intro F hF hM hsel hQ fuel
  unfold wpOp
  simp only [ho]
  rw [gdM_fits hM hg, if_pos rfl]
  exact .inl (h F hF hM hsel hQ fuel)
theorem GO.made {s : Sem Value} {v : Value} (hr : s.run P w = .ok v w') (ts : List Nat) (M' : FM) (hs : semAt ops M i = some (vN s)) (hp : (putM n M (dstAt ops i) v).bind (pick ts) = some M')
    (hS : S w') (h : GP P ops Q S (done ++ [i]) n M' w') : GO P ops Q S done i n M w := by
  obtain ⟨o, ho, hg, hk, he, hd⟩ := semAt_spec hs
  obtain ⟨M1, h1, h2⟩ := putM_bind hp
  rw [hd] at h1
  refine GO.of ho hg fun F hF hM hsel hQ fuel => ?_
  unfold Oper.wp
  rw [known_exec hM hk, he]
  have : (vN s).run P w = .ok (.value v) w' := by simp [vN, hr]
  rw [this]
  have hp' := hM.put (d := o.dst) (v := v) (M' := M1) (by rw [hF]; exact h1)
  show S w' ∧ _
  rw [hp'.2.2]
  exact ⟨hS, h _ (by rw [hp'.2.1, hF]) (hp'.1.pick h2) hsel hQ fuel⟩
theorem GO.call {f : FuncId} {args : Array Value} {R : Ending → World → Prop} (hc : Calls P f args w R) (hs : (semAt ops M i).bind (pev P) = some (.enter f args))
    (h : ∀ e w', R e w' → ∃ v, e = .returned v ∧ S w' ∧ ∃ ts M', (putM n M (dstAt ops i) v).bind (pick ts) = some M' ∧ GP P ops Q S (done ++ [i]) n M' w') : GO P ops Q S done i n M w := by
  cases hsm : semAt ops M i with
  | none => rw [hsm] at hs; cases hs
  | some s =>
    rw [hsm] at hs
    obtain ⟨o, ho, hg, hk, he, hd⟩ := semAt_spec hsm
    refine GO.of ho hg fun F hF hM hsel hQ fuel => ?_
    unfold Oper.wp
    rw [known_exec hM hk, he, pev_run hs w]
    show Calls P f args w _
    refine hc.mono fun e w' hR => ?_
    obtain ⟨v, rfl, hS, ts, M', hp, hG⟩ := h e w' hR
    obtain ⟨M1, h1, h2⟩ := putM_bind hp
    rw [hd] at h1
    have hp' := hM.put (d := o.dst) (v := v) (M' := M1) (by rw [hF]; exact h1)
    show S w' ∧ _
    rw [hp'.2.2]
    exact ⟨hS, hG _ (by rw [hp'.2.1, hF]) (hp'.1.pick h2) hsel hQ fuel⟩
theorem GP.perm {d : List Nat} (d' : List Nat) (hl : lsD ops.size d = lsD ops.size d') (hn : d.length = d'.length) (h : GP P ops Q S d' n M w) : GP P ops Q S d n M w := by
  intro F hF hM hsel hQ fuel
  have := h F hF hM hsel hQ fuel
  rwa [← hl, ← hn] at this
theorem GP.named (h : ∀ X : List Nat → FM → World → Prop, (∀ d M w, X d M w = GP P ops Q S d n M w) → X done M w) : GP P ops Q S done n M w := h _ fun _ _ _ => rfl
end
end Go.Proofs.YtgbhiklengafiaaDoor
