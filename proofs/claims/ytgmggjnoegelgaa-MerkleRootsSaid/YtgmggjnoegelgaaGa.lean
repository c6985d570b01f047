/- Frames as lists of known slots; pure operations by the kernel's own evaluation; code, region by region. Plain laws over any program. -/
import Derived.WalkKit
import Derived.Deep.Quiet
import Derived.KernelRfl
namespace Go.Proofs.Ytgmggjnoegelgaa
open Go.RowKit

/-- What is known of a frame: slots, each with its value. -/
abbrev FM := List (Nat × Value)
def Fits (F : Array Value) (M : FM) : Prop := ∀ p ∈ M, F[p.1]? = some p.2
def lk : FM → Nat → Option Value
  | [], _ => none
  | (k, v) :: r, t => if k == t then some v else lk r t
def del : FM → Nat → FM
  | [], _ => []
  | (k, v) :: r, t => if k == t then del r t else (k, v) :: del r t
def pick : List Nat → FM → Option FM
  | [], _ => some []
  | t :: ts, M => match lk M t, pick ts M with
    | some v, some r => some ((t, v) :: r)
    | _, _ => none

theorem Fits.lk {F : Array Value} {M : FM} (h : Fits F M) {t : Nat} {v : Value} (hv : lk M t = some v) : F[t]? = some v := by
  induction M with
  | nil => simp [Go.Proofs.Ytgmggjnoegelgaa.lk] at hv
  | cons p r ih =>
    obtain ⟨k, u⟩ := p
    unfold Go.Proofs.Ytgmggjnoegelgaa.lk at hv
    split at hv
    · rename_i hk
      have hk : k = t := by simpa using hk
      subst hk
      injection hv with hv
      subst hv
      exact h (k, u) (by simp)
    · exact ih (fun p hp => h p (by simp [hp])) hv
theorem mem_del {M : FM} {t : Nat} {p : Nat × Value} (h : p ∈ del M t) : p ∈ M ∧ p.1 ≠ t := by
  induction M with
  | nil => simp [del] at h
  | cons q r ih =>
    obtain ⟨k, u⟩ := q
    unfold del at h
    split at h
    · have := ih h
      exact ⟨by simp [this.1], this.2⟩
    · rename_i hk
      have hk : k ≠ t := by simpa using hk
      rcases List.mem_cons.1 h with rfl | h
      · exact ⟨by simp, hk⟩
      · have := ih h
        exact ⟨by simp [this.1], this.2⟩
theorem Fits.pick {F : Array Value} {M : FM} (h : Fits F M) : ∀ {ts : List Nat} {M' : FM}, pick ts M = some M' → Fits F M'
  | [], M', hp => by
    simp [Go.Proofs.Ytgmggjnoegelgaa.pick] at hp
    subst hp
    intro p hp
    simp at hp
  | t :: ts, M', hp => by
    unfold Go.Proofs.Ytgmggjnoegelgaa.pick at hp
    split at hp
    · rename_i v r hv hr
      injection hp with hp
      subst hp
      intro p hp
      rcases List.mem_cons.1 hp with rfl | hp
      · exact h.lk hv
      · exact Fits.pick h hr p hp
    · cases hp
/-- The slot that an operation writes. -/
def putM (n : Nat) (M : FM) (d : Option Nat) (v : Value) : Option FM :=
  match d with
  | none => some M
  | some d => if d < n then some ((d, v) :: del M d) else none
theorem Fits.put {F : Array Value} {M M' : FM} {d : Option Nat} {v : Value} (h : Fits F M) (hp : putM F.size M d v = some M') :
    Fits ((⟨F, []⟩ : Act).put d v).tmps M' ∧ ((⟨F, []⟩ : Act).put d v).tmps.size = F.size ∧ ((⟨F, []⟩ : Act).put d v) = ⟨((⟨F, []⟩ : Act).put d v).tmps, []⟩ := by
  cases d with
  | none =>
    simp [putM] at hp
    subst hp
    exact ⟨h, rfl, rfl⟩
  | some d =>
    unfold putM at hp
    simp only at hp
    split at hp
    · rename_i hd
      injection hp with hp
      subst hp
      refine ⟨?_, by simp [Act.put], rfl⟩
      intro p hp
      rcases List.mem_cons.1 hp with rfl | hp
      · simp [Act.put, hd]
      · have := mem_del hp
        simp only [Act.put]
        rw [Array.getElem?_setIfInBounds_ne (Ne.symm this.2)]
        exact h p this.1
    · cases hp

/-- An operand's value, as far as the frame is known. -/
def evM (M : FM) : Operand → Option Value
  | .tmp t => lk M t
  | .const v => some v
  | .global g => some (.pointer (some ⟨g, 0, none⟩))
  | .func f => some (.func (.func f) #[] #[])
def evD (M : FM) (x : Operand) : Value := (evM M x).getD undef
theorem evM_fits {F : Array Value} {M : FM} (h : Fits F M) {x : Operand} {v : Value} (hv : evM M x = some v) : (⟨F, []⟩ : Act).eval x = v := by
  cases x with
  | tmp t =>
    have := h.lk hv
    simp [Act.eval, this]
  | const u => simpa [evM, Act.eval] using hv
  | global g => simpa [evM, Act.eval] using hv
  | func f => simpa [evM, Act.eval] using hv
def knownL (M : FM) : List Operand → Bool
  | [] => true
  | x :: r => (evM M x).isSome && knownL M r
def isSelect : Op → Bool
  | .select _ _ => true
  | _ => false
def isDefer : Op → Bool
  | .defer _ => true
  | _ => false
def known (M : FM) (o : Oper) : Bool := !isSelect o.op && knownL M o.op.operands.toList
theorem knownL_mem {M : FM} : ∀ {l : List Operand}, knownL M l = true → ∀ x ∈ l, (evM M x).isSome = true
  | [], _, x, hx => by simp at hx
  | y :: r, h, x, hx => by
    simp only [knownL, Bool.and_eq_true] at h
    rcases List.mem_cons.1 hx with rfl | hx
    · exact h.1
    · exact knownL_mem h.2 x hx
theorem known_exec {F : Array Value} {M : FM} (h : Fits F M) {o : Oper} (hk : known M o = true) : execOp (⟨F, []⟩ : Act).eval o = execOp (evD M) o := by
  simp only [known, Bool.and_eq_true, Bool.not_eq_true'] at hk
  refine execOp_congr o (fun cs b he => ?_) (fun x hx => ?_)
  · rw [he] at hk
    simp [isSelect] at hk
  · have := knownL_mem hk.2 x (by simpa using hx)
    obtain ⟨v, hv⟩ := Option.isSome_iff_exists.1 this
    rw [evM_fits h hv]
    simp [evD, hv]
/-- What an operation's guard finds. -/
def gdM (ops : Array Oper) (M : FM) (o : Oper) : Option Bool :=
  match o.guard with
  | none => some true
  | some (j, want) => match (ops[j]?).bind (·.dst) with
    | none => none
    | some d => match lk M d with
      | some (.bool b) => some (b == want)
      | some (.tuple _) => some false
      | _ => none
theorem gdM_fits {ops : Array Oper} {F : Array Value} {M : FM} (h : Fits F M) {o : Oper} {b : Bool} (hg : gdM ops M o = some b) : Region.wanted o (yielded ops F) = b := by
  unfold gdM at hg
  unfold Region.wanted
  split at hg
  · rename_i hn
    rw [hn]
    simpa using hg
  · rename_i j want hn
    rw [hn]
    simp only
    split at hg
    · cases hg
    · rename_i d hd
      split at hg
      · rename_i c hc
        have hy : yielded ops F j = some c := by
          unfold yielded
          rw [hd]
          simp [h.lk hc]
        rw [hy]
        exact Option.some.inj hg
      · rename_i c hc
        have hy : yielded ops F j = none := by
          unfold yielded
          rw [hd]
          simp [h.lk hc]
        rw [hy]
        exact Option.some.inj hg
      · cases hg

/-- What a computation comes to that asks nothing of the world. -/
def pev {α : Type} (P : Program) : Sem α → Option α
  | .pure a => some a
  | .program k => pev P (k P)
  | .mark _ k => pev P k
  | _ => none
theorem pev_run {α : Type} {P : Program} : ∀ {s : Sem α} {a : α}, pev P s = some a → ∀ w, s.run P w = .ok a w := by
  intro s
  induction s with
  | pure b => intro a h w; simp [pev] at h; subst h; rfl
  | program k ih => intro a h w; simp only [pev] at h; simp only [Sem.run]; exact ih P h w
  | mark m k ih => intro a h w; simp only [pev] at h; simp only [Sem.run]; exact ih h w
  | _ => intro a h; simp [pev] at h

def opPev (P : Program) (M : FM) (o : Oper) : Option Value :=
  match pev P (execOp (evD M) o) with
  | some (.value v) => some v
  | _ => none
/-- k operations from number i on, each of which asks nothing of the world. -/
def batch (P : Program) (ops : Array Oper) (n : Nat) : (k : Nat) → (i : Nat) → FM → Option FM
  | 0, _, M => some M
  | k + 1, i, M => match ops[i]? with
    | none => none
    | some o => match gdM ops M o with
      | none => none
      | some false => match putM n M o.dst undef with
        | some M' => batch P ops n k (i + 1) M'
        | none => none
      | some true => if known M o then
          match opPev P M o with
          | some v => match putM n M o.dst v with
            | some M' => batch P ops n k (i + 1) M'
            | none => none
          | none => none
        else none

/-- A region's operations from number i on, under a frame of which M is known. -/
def GL (P : Program) (ops : Array Oper) (Q : Exit → Act → World → Prop) (i n : Nat) (M : FM) (w : World) : Prop :=
  ∀ F : Array Value, F.size = n → Fits F M → wpList P ops Q (ops.toList.drop i) ⟨F, []⟩ w
/-- A piece of code under a frame of which M is known. -/
def G (P : Program) (c : Code) (Q : Exit → Act → World → Prop) (n : Nat) (M : FM) (w : World) : Prop :=
  ∀ F : Array Value, F.size = n → Fits F M → c.wp P Q ⟨F, []⟩ w

section
variable {P : Program} {ops : Array Oper} {Q : Exit → Act → World → Prop} {i n : Nat} {M M' : FM} {w : World}
theorem drop_at {o : Oper} (ho : ops[i]? = some o) : ops.toList.drop i = o :: ops.toList.drop (i + 1) := by
  have h : ops.toList[i]? = some o := by simpa using ho
  have hl : i < ops.toList.length := (List.getElem?_eq_some_iff.1 h).1
  rw [List.drop_eq_getElem_cons hl]
  congr 1
  exact (List.getElem?_eq_some_iff.1 h).2
/-- One operation whose run is known in this world. -/
theorem GL.step {o : Oper} {w' : World} {v : Value} (ho : ops[i]? = some o) (hg : gdM ops M o = some true)
    (hr : ∀ F : Array Value, F.size = n → Fits F M → (execOp (⟨F, []⟩ : Act).eval o).run P w = .ok (.value v) w')
    (hp : putM n M o.dst v = some M') (h : GL P ops Q (i + 1) n M' w') : GL P ops Q i n M w := by
  intro F hF hM
  rw [drop_at ho]
  refine wpList_step fun K hK => ?_
  rw [gdM_fits hM hg, if_pos rfl]
  unfold Oper.wp
  rw [hr F hF hM]
  have hp' := hM.put (d := o.dst) (v := v) (M' := M') (by rw [hF]; exact hp)
  show K _ _
  rw [hp'.2.2]
  exact hK _ _ (h _ (by rw [hp'.2.1, hF]) hp'.1)
theorem GL.skip_ {o : Oper} (ho : ops[i]? = some o) (hg : gdM ops M o = some false) (hp : putM n M o.dst undef = some M') (h : GL P ops Q (i + 1) n M' w) : GL P ops Q i n M w := by
  intro F hF hM
  rw [drop_at ho]
  refine wpList_step fun K hK => ?_
  rw [gdM_fits hM hg]
  simp only [Bool.false_eq_true, if_false]
  have hp' := hM.put (d := o.dst) (v := undef) (M' := M') (by rw [hF]; exact hp)
  rw [hp'.2.2]
  exact hK _ _ (h _ (by rw [hp'.2.1, hF]) hp'.1)
theorem GL.batch_ : ∀ {k i : Nat} {M M' : FM}, batch P ops n k i M = some M' → GL P ops Q (i + k) n M' w → GL P ops Q i n M w
  | 0, i, M, M', hb, h => by
    simp [batch] at hb
    subst hb
    exact h
  | k + 1, i, M, M', hb, h => by
    have h' : GL P ops Q (i + 1 + k) n M' w := by rwa [show i + 1 + k = i + (k + 1) from by omega]
    unfold batch at hb
    split at hb
    · cases hb
    · rename_i o ho
      split at hb
      · cases hb
      · rename_i hg
        split at hb
        · rename_i M1 hp
          exact GL.skip_ ho hg hp (GL.batch_ hb h')
        · cases hb
      · rename_i hg
        split at hb
        · rename_i hk
          split at hb
          · rename_i v hv
            split at hb
            · rename_i M1 hp
              refine GL.step ho hg (fun F hF hM => ?_) hp (GL.batch_ hb h')
              rw [known_exec hM hk]
              unfold opPev at hv
              split at hv
              · rename_i u hu
                injection hv with hv
                subst hv
                exact pev_run hu w
              · cases hv
            · cases hb
          · cases hb
        · cases hb
theorem GL.fit {ts : List Nat} (hp : pick ts M = some M') (h : GL P ops Q i n M' w) : GL P ops Q i n M w := fun F hF hM => h F hF (hM.pick hp)
/-- k plain operations, then the slots named by ts are kept. -/
theorem GL.run (k : Nat) (ts : List Nat) (M' : FM) {j : Nat} (hb : (batch P ops n k i M).bind (pick ts) = some M') (hj : i + k = j) (h : GL P ops Q j n M' w) : GL P ops Q i n M w := by
  subst hj
  cases hm : batch P ops n k i M with
  | none => rw [hm] at hb; cases hb
  | some M1 =>
    rw [hm] at hb
    exact GL.batch_ hm (GL.fit hb h)
theorem GL.eq {M' : FM} (he : M = M') (h : GL P ops Q i n M' w) : GL P ops Q i n M w := he ▸ h
theorem G.eq {c : Code} {M' : FM} (he : M = M') (h : G P c Q n M' w) : G P c Q n M w := he ▸ h
theorem G.fit {c : Code} (ts : List Nat) (hp : pick ts M = some M') (h : G P c Q n M' w) : G P c Q n M w := fun F hF hM => h F hF (hM.pick hp)
theorem GL.done (hi : Nat.ble ops.size i = true) (h : ∀ F : Array Value, F.size = n → Fits F M → Q .normal ⟨F, []⟩ w) : GL P ops Q i n M w := by
  intro F hF hM
  rw [List.drop_eq_nil_of_le (by simpa using Nat.le_of_ble_eq_true hi)]
  exact wpList_nil (h F hF hM)
/-- A region's end, more code behind it. -/
theorem GL.next {b : Code} {Q : Exit → Act → World → Prop} (hi : Nat.ble ops.size i = true) (h : G P b Q n M w) : GL P ops (Exit.then (fun a w => b.wp P Q a w) Q) i n M w :=
  GL.done hi fun F hF hM => h F hF hM
theorem G.region {id : Nat} (h : GL P ops Q 0 n M w) : G P (.region id ops false) Q n M w := fun F hF hM =>
  wp_region_list (by simpa using h F hF hM)
theorem G.seq {a b : Code} (h : G P a (Exit.then (fun a w => b.wp P Q a w) Q) n M w) : G P (.seq a b) Q n M w := fun F hF hM => wp_seq (h F hF hM)
theorem G.block {id : Nat} {c : Code} (h : G P c (Exit.inBlock id Q) n M w) : G P (.block id c) Q n M w := fun F hF hM => wp_block (h F hF hM)
theorem G.skip_ (h : ∀ F : Array Value, F.size = n → Fits F M → Q .normal ⟨F, []⟩ w) : G P .skip Q n M w := fun F hF hM => wp_skip (h F hF hM)
theorem G.skip_next {b : Code} {Q : Exit → Act → World → Prop} (h : G P b Q n M w) : G P .skip (Exit.then (fun a w => b.wp P Q a w) Q) n M w := fun F hF hM => wp_skip (h F hF hM)
theorem G.exit {id : Nat} {b : Code} {Q' : Exit → Act → World → Prop} (hq : ∀ a w, b.wp P Q' a w → Q (.exit id) a w) (h : G P b Q' n M w) : G P (.exit id) Q n M w := fun F hF hM => wp_exit (hq _ _ (h F hF hM))
theorem G.cond {c : Operand} {x y : Code} {b : Bool} (hc : evM M c = some (.bool b)) (hx : b = true → G P x Q n M w) (hy : b = false → G P y Q n M w) : G P (.cond c x y) Q n M w := by
  intro F hF hM
  refine wp_cond (evM_fits hM hc) ?_
  cases b
  · exact hy rfl F hF hM
  · exact hx rfl F hF hM
theorem G.yes {c : Operand} {x y : Code} (hc : evM M c = some (.bool true)) (hx : G P x Q n M w) : G P (.cond c x y) Q n M w := G.cond hc (fun _ => hx) (fun h => by cases h)
theorem G.no {c : Operand} {x y : Code} (hc : evM M c = some (.bool false)) (hy : G P y Q n M w) : G P (.cond c x y) Q n M w := G.cond hc (fun h => by cases h) (fun _ => hy)
theorem G.ret (h : ∀ F : Array Value, F.size = n → Fits F M → Q .ret ⟨F, []⟩ w) : G P .ret Q n M w := fun F hF hM => wp_ret (h F hF hM)

/-- A round's end: the loop goes on from a state x'. -/
def Again (n : Nat) {X : Type} (Mx : X → FM) (J : X → World → Prop) (μ : X → Nat) (x : X) : Act → World → Prop :=
  fun a w => ∃ x', μ x' < μ x ∧ J x' w ∧ ∃ F : Array Value, a = ⟨F, []⟩ ∧ F.size = n ∧ Fits F (Mx x')
theorem G.loop {X : Type} {c : Code} (Mx : X → FM) (J : X → World → Prop) (μ : X → Nat) (x0 : X) (ts : List Nat) (hM : pick ts M = some (Mx x0)) (hJ : J x0 w)
    (hstep : ∀ x w, J x w → G P c (Exit.then (Again n Mx J μ x) Q) n (Mx x) w) : G P (.loop c) Q n M w := by
  have key : ∀ m x w, μ x ≤ m → J x w → ∀ F : Array Value, F.size = n → Fits F (Mx x) → Code.rounds P c Q (m + 1) ⟨F, []⟩ w := by
    intro m
    induction m with
    | zero =>
      intro x w hm hx F hF hFit
      rw [rounds_succ]
      refine wp_mono (hstep x w hx F hF hFit) ?_
      intro e a' w' hq
      cases e with
      | normal =>
        obtain ⟨x', hlt, _⟩ := hq
        omega
      | _ => exact hq
    | succ m ih =>
      intro x w hm hx F hF hFit
      rw [rounds_succ]
      refine wp_mono (hstep x w hx F hF hFit) ?_
      intro e a' w' hq
      cases e with
      | normal =>
        obtain ⟨x', hlt, hJ', F', rfl, hF', hfit'⟩ := hq
        exact ih x' w' (by omega) hJ' F' hF' hfit'
      | _ => exact hq
  intro F hF hFit
  exact wp_loop_rounds _ (key (μ x0) x0 w (Nat.le_refl _) hJ F hF (hFit.pick hM))
theorem GL.again {X : Type} {Mx : X → FM} {J : X → World → Prop} {μ : X → Nat} {x : X} {Q : Exit → Act → World → Prop} (x' : X) (ts : List Nat) (hi : Nat.ble ops.size i = true) (hp : pick ts M = some (Mx x')) (hμ : μ x' < μ x) (hJ : J x' w) :
    GL P ops (Exit.then (Again n Mx J μ x) Q) i n M w :=
  GL.done hi fun F hF hM => ⟨x', hμ, hJ, F, rfl, hF, hM.pick hp⟩
/-- A loop of at most k + 1 rounds, unrolled. -/
theorem G.unroll {c : Code} (k : Nat) (h : G P c (Exit.then (Code.rounds P c Q k) Q) n M w) : G P (.loop c) Q n M w := fun F hF hM => wp_loop_rounds (k + 1) (h F hF hM)
theorem GL.round {c : Code} {Q : Exit → Act → World → Prop} {k : Nat} (hi : Nat.ble ops.size i = true) (h : G P c (Exit.then (Code.rounds P c Q k) Q) n M w) : GL P ops (Exit.then (Code.rounds P c Q (k + 1)) Q) i n M w :=
  GL.done hi fun F hF hM => h F hF hM

/-- A function is entered. -/
def argsM : Nat → List Value → FM
  | _, [] => []
  | k, v :: r => (k, v) :: argsM (k + 1) r
theorem fits_args (args : List Value) (m : Nat) : ∀ (l : List Value) (k : Nat), (∀ j, l[j]? = args[k + j]? ∨ l.length ≤ j) → Fits (args.toArray ++ Array.replicate m undef) (argsM k l)
  | [], k, _ => by intro p hp; simp [argsM] at hp
  | v :: r, k, h => by
    intro p hp
    rcases List.mem_cons.1 hp with rfl | hp
    · have h0 := (h 0).resolve_right (by simp)
      simp only [List.getElem?_cons_zero, Nat.add_zero] at h0
      have hk : k < args.length := by
        rcases Nat.lt_or_ge k args.length with h1 | h1
        · exact h1
        · rw [List.getElem?_eq_none h1] at h0; cases h0
      show (args.toArray ++ Array.replicate m undef)[k]? = some v
      rw [Array.getElem?_append_left (by simpa using hk)]
      simpa using h0.symm
    · refine fits_args args m r (k + 1) (fun j => ?_) p hp
      rcases h (j + 1) with h1 | h1
      · left
        rw [List.getElem?_cons_succ] at h1
        rw [h1]
        congr 1
        omega
      · right
        simp at h1
        omega
theorem calls_G {f : FuncId} {fn : Func} {c : Code} {args : List Value} {R : Ending → World → Prop} (hf : P.funcs[f]? = some fn) (hb : fn.body = some c) (hn : fn.ntmps = n) (hl : Nat.ble args.length n = true)
    (h : ∀ Q : Exit → Act → World → Prop, (∀ a w, bodyPost P fn R .ret a w → Q .ret a w) → (∀ a w, bodyPost P fn R .ret a w → Q .normal a w) → (∀ c (a : Act) d v w, Q (.panic c) (a.put d v) w → Q (.panic c) a w) → G P c Q n (argsM 0 args) w) : Calls P f args.toArray w R := by
  refine calls_of_wp hf hb ?_
  refine h (bodyPost P fn R) (fun _ _ h => h) (fun _ _ h => h) (fun c a d v w h => by cases d <;> exact h) _ ?_ ?_
  · have := Nat.le_of_ble_eq_true hl
    simp [hn]; omega
  · exact fits_args args _ args 0 (fun j => by left; simp)
/-- A result that stands in slots. -/
theorem bodyPost_tmps1 {fn : Func} {R : Ending → World → Prop} {t : Nat} {v : Value} (hr : fn.results = #[.tmp t]) (hv : lk M t = some v) (h : R (.returned v) w) :
    ∀ F : Array Value, F.size = n → Fits F M → bodyPost P fn R .ret ⟨F, []⟩ w := fun F _ hM => by
  refine ⟨rfl, v, ?_, h⟩
  have := hM.lk hv
  simp [results, hr, this]
theorem bodyPost_tmps0 {fn : Func} {R : Ending → World → Prop} (hr : fn.results = #[]) (h : R (.returned (.tuple #[])) w) :
    ∀ F : Array Value, F.size = n → Fits F M → bodyPost P fn R .ret ⟨F, []⟩ w := fun F _ _ => by
  refine ⟨rfl, .tuple #[], ?_, h⟩
  simp [results, hr]
theorem bodyPost_tmps2 {fn : Func} {R : Ending → World → Prop} {t u : Nat} {v x : Value} (hr : fn.results = #[.tmp t, .tmp u]) (hv : lk M t = some v) (hx : lk M u = some x) (h : R (.returned (.tuple #[v, x])) w) :
    ∀ F : Array Value, F.size = n → Fits F M → bodyPost P fn R .ret ⟨F, []⟩ w := fun F _ hM => by
  refine ⟨rfl, .tuple #[v, x], ?_, h⟩
  have := hM.lk hv
  have := hM.lk hx
  simp [results, *]
theorem bodyPost_tmps3 {fn : Func} {R : Ending → World → Prop} {t u s : Nat} {v x y : Value} (hr : fn.results = #[.tmp t, .tmp u, .tmp s]) (hv : lk M t = some v) (hx : lk M u = some x) (hy : lk M s = some y)
    (h : R (.returned (.tuple #[v, x, y])) w) : ∀ F : Array Value, F.size = n → Fits F M → bodyPost P fn R .ret ⟨F, []⟩ w := fun F _ hM => by
  refine ⟨rfl, .tuple #[v, x, y], ?_, h⟩
  have := hM.lk hv
  have := hM.lk hx
  have := hM.lk hy
  simp [results, *]
end
end Go.Proofs.Ytgmggjnoegelgaa
