/- Part 1 of what deskPlays_proved stands on. -/
import Derived.Test.YthcdelpdgkoioaaRows
import Derived.WalkKit
import Derived.Deep.Quiet
import Derived.KernelRfl
import Derived.Maps.AppendAt
import Derived.Laws.CopyRow
import Derived.StillTail
import Derived.OrdersHeld
import Derived.Laws.BytesString
import Derived.Lib.ConvBytes
import Derived.ChangeKeysEq
import Derived.Laws.StructEq
import Derived.ProofKit
import Derived.OpenShut
import Derived.Laws.Externs
import Derived.Lib.Mul64
import Derived.Lib.Zigzag
import Derived.Conc.LoneSelect
import Derived.Conc.LoneSelectN
import Derived.Conc.SmallLaws
import Derived.Deep.Slices
import Derived.RangeFuncNested
import Derived.Shelf.Abstract
import Derived.LoopNIn
import Derived.DeepKeys
import Derived.Lib.AppendStr
import Derived.ArgAppend
import Derived.ShutString
import Derived.ChangeOld
import Derived.Below
set_option linter.unusedVariables false
namespace Go.Proofs.Ythcdelpdgkoioaa
open Go.RowKit
abbrev FM := List (Nat × Value)
def Fits (F : Array Value) (M : FM) : Prop := ∀ p ∈ M, F[p.1]? = some p.2
def lk : FM → Nat → Option Value
 | [], _ => none
 | (k, v) :: r, t => if k == t then some v else lk r t
def del : FM → Nat → FM
 | [], _ => []
 | (k, v) :: r, t => if k == t then del r t else (k, v) :: del r t
def pick : List Nat → FM → Option FM
 | [], _ => some []
 | t :: ts, M => match lk M t, pick ts M with
   | some v, some r => some ((t, v) :: r)
   | _, _ => none
theorem Fits.lk {F : Array Value} {M : FM} (h : Fits F M) {t : Nat} {v : Value} (hv : lk M t = some v) : F[t]? = some v := by
 induction M with
 | nil => simp [Go.Proofs.Ythcdelpdgkoioaa.lk] at hv
 | cons p r ih =>
   obtain ⟨k, u⟩ := p
   unfold Go.Proofs.Ythcdelpdgkoioaa.lk at hv
   split at hv
   · rename_i hk
     have hk : k = t := by simpa using hk
     subst hk
     injection hv with hv
     subst hv
     exact h (k, u) (by simp)
   · exact ih (fun p hp => h p (by simp [hp])) hv
theorem mem_del {M : FM} {t : Nat} {p : Nat × Value} (h : p ∈ del M t) : p ∈ M ∧ p.1 ≠ t := by
 induction M with
 | nil => simp [del] at h
 | cons q r ih =>
   obtain ⟨k, u⟩ := q
   unfold del at h
   split at h
   · have := ih h
     exact ⟨by simp [this.1], this.2⟩
   · rename_i hk
     have hk : k ≠ t := by simpa using hk
     rcases List.mem_cons.1 h with rfl | h
     · exact ⟨by simp, hk⟩
     · have := ih h
       exact ⟨by simp [this.1], this.2⟩
theorem Fits.pick {F : Array Value} {M : FM} (h : Fits F M) : ∀ {ts : List Nat} {M' : FM}, pick ts M = some M' → Fits F M'
 | [], M', hp => by
   simp [Go.Proofs.Ythcdelpdgkoioaa.pick] at hp
   subst hp
   intro p hp
   simp at hp
 | t :: ts, M', hp => by
   unfold Go.Proofs.Ythcdelpdgkoioaa.pick at hp
   split at hp
   · rename_i v r hv hr
     injection hp with hp
     subst hp
     intro p hp
     rcases List.mem_cons.1 hp with rfl | hp
     · exact h.lk hv
     · exact Fits.pick h hr p hp
   · cases hp
def putM (n : Nat) (M : FM) (d : Option Nat) (v : Value) : Option FM :=
 match d with
 | none => some M
 | some d => if d < n then some ((d, v) :: del M d) else none
theorem Fits.put {F : Array Value} {M M' : FM} {d : Option Nat} {v : Value} (h : Fits F M) (hp : putM F.size M d v = some M') :
   Fits ((⟨F, []⟩ : Act).put d v).tmps M' ∧ ((⟨F, []⟩ : Act).put d v).tmps.size = F.size ∧ ((⟨F, []⟩ : Act).put d v) = ⟨((⟨F, []⟩ : Act).put d v).tmps, []⟩ := by
 cases d with
 | none =>
   simp [putM] at hp
   subst hp
   exact ⟨h, rfl, rfl⟩
 | some d =>
   unfold putM at hp
   simp only at hp
   split at hp
   · rename_i hd
     injection hp with hp
     subst hp
     refine ⟨?_, by simp [Act.put], rfl⟩
     intro p hp
     rcases List.mem_cons.1 hp with rfl | hp
     · simp [Act.put, hd]
     · have := mem_del hp
       simp only [Act.put]
       rw [Array.getElem?_setIfInBounds_ne (Ne.symm this.2)]
       exact h p this.1
   · cases hp
def evM (M : FM) : Operand → Option Value
 | .tmp t => lk M t
 | .const v => some v
 | .global g => some (.pointer (some ⟨g, 0, none⟩))
 | .func f => some (.func (.func f) #[] #[])
def evD (M : FM) (x : Operand) : Value := (evM M x).getD undef
theorem evM_fits {F : Array Value} {M : FM} (h : Fits F M) {x : Operand} {v : Value} (hv : evM M x = some v) : (⟨F, []⟩ : Act).eval x = v := by
 cases x with
 | tmp t =>
   have := h.lk hv
   simp [Act.eval, this]
 | const u => simpa [evM, Act.eval] using hv
 | global g => simpa [evM, Act.eval] using hv
 | func f => simpa [evM, Act.eval] using hv
def knownL (M : FM) : List Operand → Bool
 | [] => true
 | x :: r => (evM M x).isSome && knownL M r
def isSelect : Op → Bool
 | .select _ _ => true
 | _ => false
def isDefer : Op → Bool
 | .defer _ => true
 | _ => false
def known (M : FM) (o : Oper) : Bool := !isSelect o.op && knownL M o.op.operands.toList
theorem knownL_mem {M : FM} : ∀ {l : List Operand}, knownL M l = true → ∀ x ∈ l, (evM M x).isSome = true
 | [], _, x, hx => by simp at hx
 | y :: r, h, x, hx => by
   simp only [knownL, Bool.and_eq_true] at h
   rcases List.mem_cons.1 hx with rfl | hx
   · exact h.1
   · exact knownL_mem h.2 x hx
theorem known_exec {F : Array Value} {M : FM} (h : Fits F M) {o : Oper} (hk : known M o = true) : execOp (⟨F, []⟩ : Act).eval o = execOp (evD M) o := by
 simp only [known, Bool.and_eq_true, Bool.not_eq_true'] at hk
 refine execOp_congr o (fun cs b he => ?_) (fun x hx => ?_)
 · rw [he] at hk
   simp [isSelect] at hk
 · have := knownL_mem hk.2 x (by simpa using hx)
   obtain ⟨v, hv⟩ := Option.isSome_iff_exists.1 this
   rw [evM_fits h hv]
   simp [evD, hv]
def gdM (ops : Array Oper) (M : FM) (o : Oper) : Option Bool :=
 match o.guard with
 | none => some true
 | some (j, want) => match (ops[j]?).bind (·.dst) with
   | none => none
   | some d => match lk M d with
     | some (.bool b) => some (b == want)
     | some (.tuple _) => some false
     | _ => none
theorem gdM_fits {ops : Array Oper} {F : Array Value} {M : FM} (h : Fits F M) {o : Oper} {b : Bool} (hg : gdM ops M o = some b) : Region.wanted o (yielded ops F) = b := by
 unfold gdM at hg
 unfold Region.wanted
 split at hg
 · rename_i hn
   rw [hn]
   simpa using hg
 · rename_i j want hn
   rw [hn]
   simp only
   split at hg
   · cases hg
   · rename_i d hd
     split at hg
     · rename_i c hc
       have hy : yielded ops F j = some c := by
         unfold yielded
         rw [hd]
         simp [h.lk hc]
       rw [hy]
       exact Option.some.inj hg
     · rename_i c hc
       have hy : yielded ops F j = none := by
         unfold yielded
         rw [hd]
         simp [h.lk hc]
       rw [hy]
       exact Option.some.inj hg
     · cases hg
def pev {α : Type} (P : Program) : Sem α → Option α
 | .pure a => some a
 | .program k => pev P (k P)
 | .mark _ k => pev P k
 | _ => none
theorem pev_run {α : Type} {P : Program} : ∀ {s : Sem α} {a : α}, pev P s = some a → ∀ w, s.run P w = .ok a w := by
 intro s
 induction s with
 | pure b => intro a h w; simp [pev] at h; subst h; rfl
 | program k ih => intro a h w; simp only [pev] at h; simp only [Sem.run]; exact ih P h w
 | mark m k ih => intro a h w; simp only [pev] at h; simp only [Sem.run]; exact ih h w
 | _ => intro a h; simp [pev] at h
def opPev (P : Program) (M : FM) (o : Oper) : Option Value :=
 match pev P (execOp (evD M) o) with
 | some (.value v) => some v
 | _ => none
def batch (P : Program) (ops : Array Oper) (n : Nat) : (k : Nat) → (i : Nat) → FM → Option FM
 | 0, _, M => some M
 | k + 1, i, M => match ops[i]? with
   | none => none
   | some o => match gdM ops M o with
     | none => none
     | some false => match putM n M o.dst undef with
       | some M' => batch P ops n k (i + 1) M'
       | none => none
     | some true => if known M o then
         match opPev P M o with
         | some v => match putM n M o.dst v with
           | some M' => batch P ops n k (i + 1) M'
           | none => none
         | none => none
       else none
def GL (P : Program) (ops : Array Oper) (Q : Exit → Act → World → Prop) (i n : Nat) (M : FM) (w : World) : Prop :=
 ∀ F : Array Value, F.size = n → Fits F M → wpList P ops Q (ops.toList.drop i) ⟨F, []⟩ w
def G (P : Program) (c : Code) (Q : Exit → Act → World → Prop) (n : Nat) (M : FM) (w : World) : Prop :=
 ∀ F : Array Value, F.size = n → Fits F M → c.wp P Q ⟨F, []⟩ w
section
variable {P : Program} {ops : Array Oper} {Q : Exit → Act → World → Prop} {i n : Nat} {M M' : FM} {w : World}
theorem drop_at {o : Oper} (ho : ops[i]? = some o) : ops.toList.drop i = o :: ops.toList.drop (i + 1) := by
 have h : ops.toList[i]? = some o := by simpa using ho
 have hl : i < ops.toList.length := (List.getElem?_eq_some_iff.1 h).1
 rw [List.drop_eq_getElem_cons hl]
 congr 1
 exact (List.getElem?_eq_some_iff.1 h).2
theorem GL.step {o : Oper} {w' : World} {v : Value} (ho : ops[i]? = some o) (hg : gdM ops M o = some true)
   (hr : ∀ F : Array Value, F.size = n → Fits F M → (execOp (⟨F, []⟩ : Act).eval o).run P w = .ok (.value v) w')
   (hp : putM n M o.dst v = some M') (h : GL P ops Q (i + 1) n M' w') : GL P ops Q i n M w := by
 intro F hF hM
 rw [drop_at ho]
 refine wpList_step fun K hK => ?_
 rw [gdM_fits hM hg, if_pos rfl]
 unfold Oper.wp
 rw [hr F hF hM]
 have hp' := hM.put (d := o.dst) (v := v) (M' := M') (by rw [hF]; exact hp)
 show K _ _
 rw [hp'.2.2]
 exact hK _ _ (h _ (by rw [hp'.2.1, hF]) hp'.1)
theorem GL.skip_ {o : Oper} (ho : ops[i]? = some o) (hg : gdM ops M o = some false) (hp : putM n M o.dst undef = some M') (h : GL P ops Q (i + 1) n M' w) : GL P ops Q i n M w := by
 intro F hF hM
 rw [drop_at ho]
 refine wpList_step fun K hK => ?_
 rw [gdM_fits hM hg]
 simp only [Bool.false_eq_true, if_false]
 have hp' := hM.put (d := o.dst) (v := undef) (M' := M') (by rw [hF]; exact hp)
 rw [hp'.2.2]
 exact hK _ _ (h _ (by rw [hp'.2.1, hF]) hp'.1)
theorem GL.batch_ : ∀ {k i : Nat} {M M' : FM}, batch P ops n k i M = some M' → GL P ops Q (i + k) n M' w → GL P ops Q i n M w
 | 0, i, M, M', hb, h => by
   simp [batch] at hb
   subst hb
   exact h
 | k + 1, i, M, M', hb, h => by
   have h' : GL P ops Q (i + 1 + k) n M' w := by rwa [show i + 1 + k = i + (k + 1) from by omega]
   unfold batch at hb
   split at hb
   · cases hb
   · rename_i o ho
     split at hb
     · cases hb
     · rename_i hg
       split at hb
       · rename_i M1 hp
         exact GL.skip_ ho hg hp (GL.batch_ hb h')
       · cases hb
     · rename_i hg
       split at hb
       · rename_i hk
         split at hb
         · rename_i v hv
           split at hb
           · rename_i M1 hp
             refine GL.step ho hg (fun F hF hM => ?_) hp (GL.batch_ hb h')
             rw [known_exec hM hk]
             unfold opPev at hv
             split at hv
             · rename_i u hu
               injection hv with hv
               subst hv
               exact pev_run hu w
             · cases hv
           · cases hb
         · cases hb
       · cases hb
theorem GL.fit {ts : List Nat} (hp : pick ts M = some M') (h : GL P ops Q i n M' w) : GL P ops Q i n M w := fun F hF hM => h F hF (hM.pick hp)
theorem GL.run (k : Nat) (ts : List Nat) (M' : FM) {j : Nat} (hb : (batch P ops n k i M).bind (pick ts) = some M') (hj : i + k = j) (h : GL P ops Q j n M' w) : GL P ops Q i n M w := by
 subst hj
 cases hm : batch P ops n k i M with
 | none => rw [hm] at hb; cases hb
 | some M1 =>
   rw [hm] at hb
   exact GL.batch_ hm (GL.fit hb h)
theorem GL.eq {M' : FM} (he : M = M') (h : GL P ops Q i n M' w) : GL P ops Q i n M w := he ▸ h
theorem G.eq {c : Code} {M' : FM} (he : M = M') (h : G P c Q n M' w) : G P c Q n M w := he ▸ h
theorem G.fit {c : Code} (ts : List Nat) (hp : pick ts M = some M') (h : G P c Q n M' w) : G P c Q n M w := fun F hF hM => h F hF (hM.pick hp)
theorem GL.done (hi : Nat.ble ops.size i = true) (h : ∀ F : Array Value, F.size = n → Fits F M → Q .normal ⟨F, []⟩ w) : GL P ops Q i n M w := by
 intro F hF hM
 rw [List.drop_eq_nil_of_le (by simpa using Nat.le_of_ble_eq_true hi)]
 exact wpList_nil (h F hF hM)
theorem GL.next {b : Code} {Q : Exit → Act → World → Prop} (hi : Nat.ble ops.size i = true) (h : G P b Q n M w) : GL P ops (Exit.then (fun a w => b.wp P Q a w) Q) i n M w :=
 GL.done hi fun F hF hM => h F hF hM
theorem G.region {id : Nat} (h : GL P ops Q 0 n M w) : G P (.region id ops false) Q n M w := fun F hF hM =>
 wp_region_list (by simpa using h F hF hM)
theorem G.seq {a b : Code} (h : G P a (Exit.then (fun a w => b.wp P Q a w) Q) n M w) : G P (.seq a b) Q n M w := fun F hF hM => wp_seq (h F hF hM)
theorem G.block {id : Nat} {c : Code} (h : G P c (Exit.inBlock id Q) n M w) : G P (.block id c) Q n M w := fun F hF hM => wp_block (h F hF hM)
theorem G.exit {id : Nat} {b : Code} {Q' : Exit → Act → World → Prop} (hq : ∀ a w, b.wp P Q' a w → Q (.exit id) a w) (h : G P b Q' n M w) : G P (.exit id) Q n M w := fun F hF hM => wp_exit (hq _ _ (h F hF hM))
theorem G.cond {c : Operand} {x y : Code} {b : Bool} (hc : evM M c = some (.bool b)) (hx : b = true → G P x Q n M w) (hy : b = false → G P y Q n M w) : G P (.cond c x y) Q n M w := by
 intro F hF hM
 refine wp_cond (evM_fits hM hc) ?_
 cases b
 · exact hy rfl F hF hM
 · exact hx rfl F hF hM
theorem G.yes {c : Operand} {x y : Code} (hc : evM M c = some (.bool true)) (hx : G P x Q n M w) : G P (.cond c x y) Q n M w := G.cond hc (fun _ => hx) (fun h => by cases h)
theorem G.no {c : Operand} {x y : Code} (hc : evM M c = some (.bool false)) (hy : G P y Q n M w) : G P (.cond c x y) Q n M w := G.cond hc (fun h => by cases h) (fun _ => hy)
theorem G.ret (h : ∀ F : Array Value, F.size = n → Fits F M → Q .ret ⟨F, []⟩ w) : G P .ret Q n M w := fun F hF hM => wp_ret (h F hF hM)
def Again (n : Nat) {X : Type} (Mx : X → FM) (J : X → World → Prop) (μ : X → Nat) (x : X) : Act → World → Prop :=
 fun a w => ∃ x', μ x' < μ x ∧ J x' w ∧ ∃ F : Array Value, a = ⟨F, []⟩ ∧ F.size = n ∧ Fits F (Mx x')
theorem G.loop {X : Type} {c : Code} (Mx : X → FM) (J : X → World → Prop) (μ : X → Nat) (x0 : X) (ts : List Nat) (hM : pick ts M = some (Mx x0)) (hJ : J x0 w)
   (hstep : ∀ x w, J x w → G P c (Exit.then (Again n Mx J μ x) Q) n (Mx x) w) : G P (.loop c) Q n M w := by
 have key : ∀ m x w, μ x ≤ m → J x w → ∀ F : Array Value, F.size = n → Fits F (Mx x) → Code.rounds P c Q (m + 1) ⟨F, []⟩ w := by
   intro m
   induction m with
   | zero =>
     intro x w hm hx F hF hFit
     rw [rounds_succ]
     refine wp_mono (hstep x w hx F hF hFit) ?_
     intro e a' w' hq
     cases e with
     | normal =>
       obtain ⟨x', hlt, _⟩ := hq
       omega
     | _ => exact hq
   | succ m ih =>
     intro x w hm hx F hF hFit
     rw [rounds_succ]
     refine wp_mono (hstep x w hx F hF hFit) ?_
     intro e a' w' hq
     cases e with
     | normal =>
       obtain ⟨x', hlt, hJ', F', rfl, hF', hfit'⟩ := hq
       exact ih x' w' (by omega) hJ' F' hF' hfit'
     | _ => exact hq
 intro F hF hFit
 exact wp_loop_rounds _ (key (μ x0) x0 w (Nat.le_refl _) hJ F hF (hFit.pick hM))
theorem GL.again {X : Type} {Mx : X → FM} {J : X → World → Prop} {μ : X → Nat} {x : X} {Q : Exit → Act → World → Prop} (x' : X) (ts : List Nat) (hi : Nat.ble ops.size i = true) (hp : pick ts M = some (Mx x')) (hμ : μ x' < μ x) (hJ : J x' w) :
   GL P ops (Exit.then (Again n Mx J μ x) Q) i n M w :=
 GL.done hi fun F hF hM => ⟨x', hμ, hJ, F, rfl, hF, hM.pick hp⟩
theorem G.unroll {c : Code} (k : Nat) (h : G P c (Exit.then (Code.rounds P c Q k) Q) n M w) : G P (.loop c) Q n M w := fun F hF hM => wp_loop_rounds (k + 1) (h F hF hM)
theorem GL.round {c : Code} {Q : Exit → Act → World → Prop} {k : Nat} (hi : Nat.ble ops.size i = true) (h : G P c (Exit.then (Code.rounds P c Q k) Q) n M w) : GL P ops (Exit.then (Code.rounds P c Q (k + 1)) Q) i n M w :=
 GL.done hi fun F hF hM => h F hF hM
def argsM : Nat → List Value → FM
 | _, [] => []
 | k, v :: r => (k, v) :: argsM (k + 1) r
theorem fits_args (args : List Value) (m : Nat) : ∀ (l : List Value) (k : Nat), (∀ j, l[j]? = args[k + j]? ∨ l.length ≤ j) → Fits (args.toArray ++ Array.replicate m undef) (argsM k l)
 | [], k, _ => by intro p hp; simp [argsM] at hp
 | v :: r, k, h => by
   intro p hp
   rcases List.mem_cons.1 hp with rfl | hp
   · have h0 := (h 0).resolve_right (by simp)
     simp only [List.getElem?_cons_zero, Nat.add_zero] at h0
     have hk : k < args.length := by
       rcases Nat.lt_or_ge k args.length with h1 | h1
       · exact h1
       · rw [List.getElem?_eq_none h1] at h0; cases h0
     show (args.toArray ++ Array.replicate m undef)[k]? = some v
     rw [Array.getElem?_append_left (by simpa using hk)]
     simpa using h0.symm
   · refine fits_args args m r (k + 1) (fun j => ?_) p hp
     rcases h (j + 1) with h1 | h1
     · left
       rw [List.getElem?_cons_succ] at h1
       rw [h1]
       congr 1
       omega
     · right
       simp at h1
       omega
theorem calls_G {f : FuncId} {fn : Func} {c : Code} {args : List Value} {R : Ending → World → Prop} (hf : P.funcs[f]? = some fn) (hb : fn.body = some c) (hn : fn.ntmps = n) (hl : Nat.ble args.length n = true)
   (h : ∀ Q : Exit → Act → World → Prop, (∀ a w, bodyPost P fn R .ret a w → Q .ret a w) → (∀ a w, bodyPost P fn R .ret a w → Q .normal a w) → (∀ c (a : Act) d v w, Q (.panic c) (a.put d v) w → Q (.panic c) a w) → G P c Q n (argsM 0 args) w) : Calls P f args.toArray w R := by
 refine calls_of_wp hf hb ?_
 refine h (bodyPost P fn R) (fun _ _ h => h) (fun _ _ h => h) (fun c a d v w h => by cases d <;> exact h) _ ?_ ?_
 · have := Nat.le_of_ble_eq_true hl
   simp [hn]; omega
 · exact fits_args args _ args 0 (fun j => by left; simp)
theorem bodyPost_tmps0 {fn : Func} {R : Ending → World → Prop} (hr : fn.results = #[]) (h : R (.returned (.tuple #[])) w) :
   ∀ F : Array Value, F.size = n → Fits F M → bodyPost P fn R .ret ⟨F, []⟩ w := fun F _ _ => by
 refine ⟨rfl, .tuple #[], ?_, h⟩
 simp [results, hr]
end
end Go.Proofs.Ythcdelpdgkoioaa
namespace Go.Proofs.Ythcdelpdgkoioaa
open Go.RowKit
inductive Ent where
 | blk (b : Nat) (cs : List Value) (t : TypeId)
 | row (A : Option Addr) (n c : Nat) (e : TypeId) (sz : Nat) (xs : List Value)
 | obj (k : Nat) (o : Obj)
 | bag (Bs : List (Option Addr × Nat × Nat × TypeId × List Value))
 | que (A : Option Addr) (n c : Nat) (e : TypeId) (xs : List Value)
def Ent.ids : Ent → List Nat
 | .blk b _ _ => [b]
 | .row A _ _ _ _ _ => (A.map (·.block)).toList
 | .obj k _ => [k]
 | .bag Bs => Bs.flatMap fun p => (p.1.map (·.block)).toList
 | .que A _ _ _ _ => (A.map (·.block)).toList
def Blk (w : World) (b : Nat) (cs : List Value) (t : TypeId) : Prop :=
 ∃ lo hi, w.heap[b]? = some (.cells cs.toArray t (lo, hi)) ∧ (lo = hi ∨ cs.length ≤ lo)
def QueH (w : World) (A : Option Addr) (n c : Nat) (e : TypeId) (xs : List Value) : Prop :=
 (A = none ∧ n = 0 ∧ c = 0 ∧ xs = []) ∨ ∃ b o cs, A = some ⟨b, o, none⟩ ∧ Blk w b cs e ∧ o + c ≤ cs.length ∧ n ≤ c ∧ c ≤ maxLen ∧ xs = (cs.drop o).take n
def Ent.holds (w : World) : Ent → Prop
 | .blk b cs t => Blk w b cs t
 | .row A n c e sz xs => w.ownsRow 0 e sz (.slice A n c) n xs
 | .obj k o => w.heap[k]? = some o
 | .bag Bs => ∀ p, p ∈ Bs → w.ownsRow 0 p.2.2.2.1 1 (.slice p.1 p.2.1 p.2.2.1) p.2.1 p.2.2.2.2
 | .que A n c e xs => QueH w A n c e xs
def ids (L : List Ent) : List Nat := L.flatMap Ent.ids
theorem ids_cons (e : Ent) (L : List Ent) : ids (e :: L) = e.ids ++ ids L := by simp [ids]
theorem ids_append (L M : List Ent) : ids (L ++ M) = ids L ++ ids M := by simp [ids]
structure Hp (w0 : World) (S : List Nat) (L : List Ent) (w : World) : Prop where
 os : w.os = w0.os
 tape : w.tape = w0.tape
 output : w.output = w0.output
 size : w0.heap.size ≤ w.heap.size
 keep : ∀ k, k < w0.heap.size → k ∉ S → w.heap[k]? = w0.heap[k]?
 ents : ∀ e, e ∈ L → e.holds w
 old : ∀ k, k ∈ ids L → w0.heap.size ≤ k ∨ k ∈ S
 nd : (ids L).Nodup
section
variable {P : Program} {w0 w w' : World} {S : List Nat} {L : List Ent}
theorem Blk.cell {b : Nat} {cs : List Value} {t : TypeId} (h : Blk w b cs t) (o : Nat) : w.cell? ⟨b, o, none⟩ = cs[o]? := by
 obtain ⟨lo, hi, hb, _⟩ := h
 simp [World.cell?, hb]
theorem Blk.frozen {b : Nat} {cs : List Value} {t : TypeId} (h : Blk w b cs t) {o : Nat} (ho : o < cs.length) : w.frozen? ⟨b, o, none⟩ = false := by
 obtain ⟨lo, hi, hb, hf⟩ := h
 simp only [World.frozen?, hb]
 have : ¬ (lo ≤ o ∧ o < hi) := by omega
 simpa using this
theorem Blk.lt {b : Nat} {cs : List Value} {t : TypeId} (h : Blk w b cs t) : b < w.heap.size := by
 obtain ⟨lo, hi, hb, _⟩ := h
 exact (Array.getElem?_eq_some_iff.1 hb).1
theorem Blk.same {b : Nat} {cs : List Value} {t : TypeId} (h : Blk w b cs t) (hb : w'.heap[b]? = w.heap[b]?) : Blk w' b cs t := by
 obtain ⟨lo, hi, h1, h2⟩ := h
 exact ⟨lo, hi, hb.trans h1, h2⟩
theorem Blk.new (w : World) (cs : List Value) (t : TypeId) : Blk (w.alloc (.cells cs.toArray t)) w.heap.size cs t :=
 ⟨0, 0, heap_alloc_new w _, .inl rfl⟩
theorem Blk.set_ {b : Nat} {cs : List Value} {t : TypeId} (h : Blk w b cs t) (o : Nat) (v : Value) : Blk (w.setCell ⟨b, o, none⟩ v) b (cs.set o v) t := by
 obtain ⟨lo, hi, h1, h2⟩ := h
 refine ⟨lo, hi, ?_, by simpa using h2⟩
 simp [World.setCell, Array.getElem?_modify, h1]
theorem row_lt {A : Option Addr} {n c e sz : Nat} {xs : List Value} {b0 : Nat} (h : w.ownsRow b0 e sz (.slice A n c) n xs) : ∀ k ∈ (A.map (·.block)).toList, k < w.heap.size := by
 intro k hk
 rcases h.2 with ⟨h0, _⟩ | ⟨g, cap, cur, hv, _, hh, _⟩
 · injection h0 with hA
   subst hA
   simp at hk
 · injection hv with hA
   subst hA
   simp at hk
   subst hk
   exact (Array.getElem?_eq_some_iff.1 hh).1
theorem row_same {A : Option Addr} {n c e sz : Nat} {xs : List Value} {b0 : Nat} (h : w.ownsRow b0 e sz (.slice A n c) n xs) (hs : ∀ k ∈ (A.map (·.block)).toList, w'.heap[k]? = w.heap[k]?) :
   w'.ownsRow b0 e sz (.slice A n c) n xs := by
 refine ⟨h.1, ?_⟩
 rcases h.2 with h0 | ⟨g, cap, cur, hv, hg, hh, hr⟩
 · exact .inl h0
 · refine .inr ⟨g, cap, cur, hv, hg, (hs g ?_).trans hh, hr⟩
   injection hv with hA
   subst hA
   simp
theorem que_lt {A : Option Addr} {n c e : Nat} {xs : List Value} (h : QueH w A n c e xs) : ∀ k ∈ (A.map (·.block)).toList, k < w.heap.size := by
 intro k hk
 rcases h with ⟨h0, _⟩ | ⟨b, o, cs, hA, hb, _⟩
 · subst h0
   simp at hk
 · subst hA
   simp at hk
   subst hk
   exact hb.lt
theorem que_same {A : Option Addr} {n c e : Nat} {xs : List Value} (h : QueH w A n c e xs) (hs : ∀ k ∈ (A.map (·.block)).toList, w'.heap[k]? = w.heap[k]?) : QueH w' A n c e xs := by
 rcases h with h0 | ⟨b, o, cs, hA, hb, hr⟩
 · exact .inl h0
 · refine .inr ⟨b, o, cs, hA, hb.same (hs b ?_), hr⟩
   subst hA
   simp
theorem Ent.lt {e : Ent} (h : e.holds w) : ∀ k ∈ e.ids, k < w.heap.size := by
 intro k hk
 cases e with
 | blk b cs t =>
   simp [Ent.ids] at hk
   subst hk
   exact Blk.lt h
 | row A n c e sz xs => exact row_lt h k hk
 | obj j o =>
   simp [Ent.ids] at hk
   subst hk
   exact (Array.getElem?_eq_some_iff.1 h).1
 | bag Bs =>
   obtain ⟨p, hp, hk⟩ := List.mem_flatMap.1 hk
   exact row_lt (h p hp) k hk
 | que A n c e xs => exact que_lt h k hk
theorem Ent.same {e : Ent} (h : e.holds w) (hs : ∀ k ∈ e.ids, w'.heap[k]? = w.heap[k]?) : e.holds w' := by
 cases e with
 | blk b cs t => exact Blk.same h (hs b (by simp [Ent.ids]))
 | row A n c e sz xs => exact row_same h hs
 | obj j o => exact (hs j (by simp [Ent.ids])).trans h
 | bag Bs => exact fun p hp => row_same (h p hp) fun k hk => hs k (List.mem_flatMap.2 ⟨p, hp, hk⟩)
 | que A n c e xs => exact que_same h hs
theorem ids_mem {e : Ent} (he : e ∈ L) {k : Nat} (hk : k ∈ e.ids) : k ∈ ids L := List.mem_flatMap.2 ⟨e, he, hk⟩
theorem Hp.start (w : World) : Hp w [] [] w := ⟨rfl, rfl, rfl, Nat.le_refl _, fun _ _ _ => rfl, fun e he => by simp at he, fun k hk => by simp [ids] at hk, by simp [ids]⟩
theorem Hp.lt (H : Hp w0 S L w) : ∀ k ∈ ids L, k < w.heap.size := by
 intro k hk
 obtain ⟨e, he, hk'⟩ := List.mem_flatMap.1 hk
 exact Ent.lt (H.ents e he) k hk'
theorem Hp.below (H : Hp w0 [] L w) : Below w0.heap.size w0 w := ⟨H.os, H.tape, H.output, H.size, fun k hk => H.keep k hk (by simp)⟩
theorem Hp.step (H : Hp w0 S L w) (hb : Below w.heap.size w w') : Hp w0 S L w' :=
 ⟨hb.os.trans H.os, hb.tape.trans H.tape, hb.output.trans H.output, Nat.le_trans H.size hb.size,
  fun k hk hs => (hb.block k (Nat.lt_of_lt_of_le hk H.size)).trans (H.keep k hk hs),
  fun e he => Ent.same (H.ents e he) (fun k hk => hb.block k (Ent.lt (H.ents e he) k hk)), H.old, H.nd⟩
theorem Hp.drew (H : Hp w0 S L w) : Hp w0 S L { w with drawn := w.drawn + 1 } := H.step (Below.refl _ _).drew
theorem nodup_sub {L L' : List Ent} (h : L'.Sublist L) (hn : (ids L).Nodup) : (ids L').Nodup := by
 have : (ids L').Sublist (ids L) := by
   induction h with
   | slnil => simp
   | cons e _ ih => rw [ids_cons]; exact (ih (by rw [ids_cons] at hn; exact (List.nodup_append.1 hn).2.1)).trans (List.sublist_append_right _ _)
   | cons_cons e _ ih => rw [ids_cons, ids_cons]; exact List.Sublist.append_left (ih (by rw [ids_cons] at hn; exact (List.nodup_append.1 hn).2.1)) _
 exact hn.sublist this
theorem Hp.sub {L' : List Ent} (H : Hp w0 S L w) (h : L'.Sublist L) : Hp w0 S L' w :=
 ⟨H.os, H.tape, H.output, H.size, H.keep, fun e he => H.ents e (h.subset he),
  fun k hk => by
    obtain ⟨e, he, hk'⟩ := List.mem_flatMap.1 hk
    exact H.old k (ids_mem (h.subset he) hk'),
  nodup_sub h H.nd⟩
theorem Hp.callNew {L' : List Ent} (H : Hp w0 S L w) (H' : Hp w [] L' w') : Hp w0 S (L ++ L') w' := by
 have H1 := H.step H'.below
 refine ⟨H1.os, H1.tape, H1.output, H1.size, H1.keep, ?_, ?_, ?_⟩
 · intro e he
   rcases List.mem_append.1 he with he | he
   · exact H1.ents e he
   · exact H'.ents e he
 · intro k hk
   rw [ids_append] at hk
   rcases List.mem_append.1 hk with hk | hk
   · exact H1.old k hk
   · rcases H'.old k hk with h | h
     · exact .inl (Nat.le_trans H.size h)
     · simp at h
 · rw [ids_append]
   refine List.nodup_append.2 ⟨H1.nd, H'.nd, ?_⟩
   intro a ha b hb hab
   subst hab
   have h1 := H.lt a ha
   rcases H'.old a hb with h | h
   · omega
   · simp at h
theorem Hp.callNil (H : Hp w0 S L w) (H' : Hp w [] [] w') : Hp w0 S L w' := by
 have := H.callNew H'
 simpa using this
theorem Hp.blkAt (H : Hp w0 S L w) (i : Nat) {b : Nat} {cs : List Value} {t : TypeId} (hL : L[i]? = some (.blk b cs t)) : Blk w b cs t := H.ents _ (List.mem_of_getElem? hL)
theorem Hp.rowAt (H : Hp w0 S L w) (i : Nat) {A : Option Addr} {n c e sz : Nat} {xs : List Value} (hL : L[i]? = some (.row A n c e sz xs)) : w.ownsRow 0 e sz (.slice A n c) n xs := H.ents _ (List.mem_of_getElem? hL)
def scal (P : Program) (ty : TypeId) : Bool :=
 match P.underlying ty, P.info? ty with
 | some (.struct _), _ => false
 | some (.array _ _), _ => false
 | some _, some i => i.size == 1
 | _, _ => false
def aggSz (P : Program) (ty : TypeId) : Option Nat :=
 match P.underlying ty, P.info? ty with
 | some (.struct _), some i => some i.size
 | some (.array _ _), some i => some i.size
 | _, _ => none
theorem run_isAgg_scal {ty : TypeId} (h : scal P ty = true) (w : World) : (isAgg ty).run P w = .ok false w := by
 unfold scal at h
 cases hu : P.underlying ty with
 | none => simp [hu] at h
 | some d =>
   unfold isAgg
   rw [Sem.run_bind, run_underlying hu w]
   cases d <;> simp_all
theorem run_isAgg_agg {ty m : TypeId} (h : aggSz P ty = some m) (w : World) : (isAgg ty).run P w = .ok true w := by
 unfold aggSz at h
 cases hu : P.underlying ty with
 | none => simp [hu] at h
 | some d =>
   unfold isAgg
   rw [Sem.run_bind, run_underlying hu w]
   cases d <;> simp_all
theorem run_sizeOf_agg {ty m : TypeId} (h : aggSz P ty = some m) (w : World) : (sizeOf ty).run P w = .ok m w := by
 unfold aggSz at h
 cases hi : P.info? ty with
 | none => simp only [hi] at h; split at h <;> simp_all
 | some i =>
   simp only [hi] at h
   have : i.size = m := by split at h <;> simp_all
   simp [sizeOf, typeInfo, hi, this]
theorem run_sizeOf_scal {ty : TypeId} (h : scal P ty = true) (w : World) : (sizeOf ty).run P w = .ok 1 w := by
 unfold scal at h
 cases hi : P.info? ty with
 | none => simp only [hi] at h; split at h <;> simp_all
 | some i =>
   simp only [hi] at h
   have : i.size = 1 := by split at h <;> simp_all
   simp [sizeOf, typeInfo, hi, this]
theorem run_ld1 {ty : TypeId} {a : Addr} {v : Value} (hs : scal P ty = true) (hc : w.cell? a = some v) : (Instr.loadAt ty (.pointer (some a))).run P w = .ok v w := by
 simp [Instr.loadAt, Instr.sureAddr, loadVar, run_isAgg_scal hs, hc]
theorem run_ldA {ty m : TypeId} {b o : Nat} {cs sub : List Value} {t : TypeId} (hs : aggSz P ty = some m) (hb : Blk w b cs t) (hsub : (cs.drop o).take m = sub) (hl : sub.length = m) :
   (Instr.loadAt ty (.pointer (some ⟨b, o, none⟩))).run P w = .ok (.agg sub.toArray) w := by
 have h1 : (loadCells ⟨b, o, none⟩ sub.length).run P w = .ok sub.toArray w := by
   refine run_loadCells_list (P := P) w ⟨b, o, none⟩ sub (fun j v hv => ?_)
   have hadd : (⟨b, o, none⟩ : Addr).add j = ⟨b, o + j, none⟩ := by unfold Addr.add; split <;> simp_all
   rw [hadd, hb.cell, ← hv, ← hsub]
   have hj : j < m := by
     rw [← hl]
     exact (List.getElem?_eq_some_iff.1 hv).1
   rw [List.getElem?_take_of_lt hj, List.getElem?_drop]
 rw [hl] at h1
 simp [Instr.loadAt, Instr.sureAddr, loadVar, run_isAgg_agg hs, run_sizeOf_agg hs, h1]
theorem Hp.ld (H : Hp w0 S L w) (i : Nat) {b o : Nat} {cs : List Value} {t ty : TypeId} {v : Value} (hL : L[i]? = some (.blk b cs t)) (hs : scal P ty = true) (hv : cs[o]? = some v) :
   (Instr.loadAt ty (.pointer (some ⟨b, o, none⟩))).run P w = .ok v w := run_ld1 hs (by rw [(H.blkAt i hL).cell]; exact hv)
theorem Hp.ldA (H : Hp w0 S L w) (i : Nat) {b o : Nat} {cs sub : List Value} {t ty m : TypeId} (hL : L[i]? = some (.blk b cs t)) (hs : aggSz P ty = some m) (hsub : (cs.drop o).take m = sub) (hl : sub.length = m) :
   (Instr.loadAt ty (.pointer (some ⟨b, o, none⟩))).run P w = .ok (.agg sub.toArray) w := run_ldA hs (H.blkAt i hL) hsub hl
theorem ids_set {i : Nat} {e e' : Ent} (hL : L[i]? = some e) (he : e'.ids = e.ids) : ids (L.set i e') = ids L := by
 induction L generalizing i with
 | nil => simp at hL
 | cons x r ih =>
   cases i with
   | zero =>
     simp at hL
     subst hL
     simp [ids_cons, he]
   | succ i =>
     simp only [List.set_cons_succ, ids_cons]
     rw [ih (by simpa using hL)]
theorem other_ids {i j : Nat} {e x : Ent} (hn : (ids L).Nodup) (hi : L[i]? = some e) (hj : L[j]? = some x) (hne : i ≠ j) {k : Nat} (hk : k ∈ e.ids) : k ∉ x.ids := by
 induction L generalizing i j with
 | nil => simp at hi
 | cons y r ih =>
   rw [ids_cons] at hn
   obtain ⟨_, hn2, hn3⟩ := List.nodup_append.1 hn
   cases i with
   | zero =>
     simp at hi
     subst hi
     cases j with
     | zero => omega
     | succ j =>
       intro hkx
       have hx : x ∈ r := List.mem_of_getElem? (by simpa using hj)
       exact hn3 k hk k (ids_mem hx hkx) rfl
   | succ i =>
     cases j with
     | zero =>
       simp at hj
       subst hj
       intro hkx
       have he : e ∈ r := List.mem_of_getElem? (by simpa using hi)
       exact hn3 k hkx k (ids_mem he hk) rfl
     | succ j => exact ih hn2 (by simpa using hi) (by simpa using hj) (by omega)
theorem Hp.turn (H : Hp w0 S L w) (i : Nat) {e e' : Ent} (hL : L[i]? = some e) (he : e'.ids = e.ids) (h' : e'.holds w') (hos : w'.os = w.os) (htape : w'.tape = w.tape) (hout : w'.output = w.output)
   (hsz : w.heap.size ≤ w'.heap.size) (hk : ∀ k, k < w.heap.size → k ∉ e.ids → w'.heap[k]? = w.heap[k]?) : Hp w0 S (L.set i e') w' := by
 refine ⟨hos.trans H.os, htape.trans H.tape, hout.trans H.output, Nat.le_trans H.size hsz, ?_, ?_, ?_, ?_⟩
 · intro k hk0 hS
   refine (hk k (Nat.lt_of_lt_of_le hk0 H.size) (fun hin => ?_)).trans (H.keep k hk0 hS)
   rcases H.old k (ids_mem (List.mem_of_getElem? hL) hin) with h | h
   · omega
   · exact hS h
 · intro x hx
   obtain ⟨j, hj⟩ := List.getElem?_of_mem hx
   by_cases hij : i = j
   · subst hij
     have hi : i < L.length := (List.getElem?_eq_some_iff.1 hL).1
     rw [List.getElem?_set_self hi] at hj
     injection hj with hj
     subst hj
     exact h'
   · rw [List.getElem?_set_ne hij] at hj
     have hxx := H.ents x (List.mem_of_getElem? hj)
     refine Ent.same hxx (fun k hkx => hk k (Ent.lt hxx k hkx) (fun hke => ?_))
     exact other_ids H.nd hL hj hij hke hkx
 · intro k hk
   rw [ids_set hL he] at hk
   exact H.old k hk
 · rw [ids_set hL he]
   exact H.nd
theorem Hp.setCell (H : Hp w0 S L w) (i : Nat) {b : Nat} {cs : List Value} {t : TypeId} (hL : L[i]? = some (.blk b cs t)) (o : Nat) (v : Value) : Hp w0 S (L.set i (.blk b (cs.set o v) t)) (w.setCell ⟨b, o, none⟩ v) :=
 H.turn i hL rfl ((H.blkAt i hL).set_ o v) rfl rfl rfl (by simp [World.setCell]) (fun k _ hk => Below.heap_setCell w _ v k (by simpa [Ent.ids] using hk))
theorem Hp.st (H : Hp w0 S L w) (i : Nat) {b o : Nat} {cs : List Value} {t ty : TypeId} {v : Value} (hL : L[i]? = some (.blk b cs t)) (hs : scal P ty = true) (ho : o < cs.length) (h1 : v.oneCell' = true) :
   ∃ w', (Instr.storeAt ty (.pointer (some ⟨b, o, none⟩)) v).run P w = .ok () w' ∧ Hp w0 S (L.set i (.blk b (cs.set o v) t)) w' := by
 refine ⟨_, ?_, H.setCell i hL o v⟩
 have hcl : v.cells = #[v] := by cases v <;> simp_all [Value.cells, Value.oneCell']
 have hc : w.cell? ⟨b, o, none⟩ = some cs[o] := by
   rw [(H.blkAt i hL).cell]
   simp [ho]
 have hadd : (⟨b, o, none⟩ : Addr).add 0 = ⟨b, o, none⟩ := rfl
 simp [Instr.storeAt, Instr.sureAddr, storeVar, run_sizeOf_scal hs, hcl, storeCells, hadd, run_store P w _ v _ h1, hc, (H.blkAt i hL).frozen ho]
theorem set_splice (cs : List Value) (o : Nat) (v : Value) (rest : List Value) (h : o < cs.length) :
   (cs.set o v).take (o + 1) ++ rest ++ (cs.set o v).drop (o + 1 + rest.length) = cs.take o ++ (v :: rest) ++ cs.drop (o + (v :: rest).length) := by
 have h1 : (cs.set o v).take (o + 1) = cs.take o ++ [v] := by
   rw [List.take_add_one, List.take_set_of_le (Nat.le_refl _)]
   simp [h]
 rw [h1, List.drop_set_of_lt (by omega)]
 simp [Nat.add_comm, Nat.add_left_comm]
theorem Hp.stCells (i : Nat) {b : Nat} {t : TypeId} (o : Nat) : ∀ (vs : List Value) (j : Nat) (L : List Ent) (w : World) (cs : List Value), Hp w0 S L w → L[i]? = some (.blk b cs t) → o + j + vs.length ≤ cs.length → (∀ v ∈ vs, v.oneCell' = true) →
   ∃ w', (storeCells ⟨b, o, none⟩ vs j).run P w = .ok () w' ∧ Hp w0 S (L.set i (.blk b (cs.take (o + j) ++ vs ++ cs.drop (o + j + vs.length)) t)) w'
 | [], j, L, w, cs, H, hL, _, _ => by
   refine ⟨w, rfl, ?_⟩
   have hi : i < L.length := (List.getElem?_eq_some_iff.1 hL).1
   have : L.set i (.blk b (cs.take (o + j) ++ [] ++ cs.drop (o + j + ([] : List Value).length)) t) = L := by
     simp only [List.append_nil, List.length_nil, Nat.add_zero, List.take_append_drop]
     refine List.ext_getElem? (fun k => ?_)
     by_cases hk : i = k
     · subst hk
       rw [List.getElem?_set_self hi, hL]
     · rw [List.getElem?_set_ne hk]
   rw [this]
   exact H
 | v :: vs, j, L, w, cs, H, hL, hlen, h1 => by
   have hoj : o + j < cs.length := by simp at hlen; omega
   have hadd : (⟨b, o, none⟩ : Addr).add j = ⟨b, o + j, none⟩ := by unfold Addr.add; split <;> simp_all
   have hc : w.cell? ⟨b, o + j, none⟩ = some cs[o + j] := by
     rw [(H.blkAt i hL).cell]
     simp [hoj]
   have hst : (store ((⟨b, o, none⟩ : Addr).add j) v).run P w = .ok () (w.setCell ⟨b, o + j, none⟩ v) := by
     rw [hadd, run_store P w _ v _ (h1 v (by simp)), hc]
     simp [(H.blkAt i hL).frozen hoj]
   have hi : i < L.length := (List.getElem?_eq_some_iff.1 hL).1
   obtain ⟨w', hr, H'⟩ := Hp.stCells i (b := b) (t := t) o vs (j + 1) _ _ (cs.set (o + j) v) (H.setCell i hL (o + j) v) (List.getElem?_set_self hi) (by simp at hlen ⊢; omega) (fun x hx => h1 x (by simp [hx]))
   refine ⟨w', ?_, ?_⟩
   · simp only [storeCells, Sem.run_bind, hst, Result.andThen_ok, hr]
   · rw [List.set_set, ← Nat.add_assoc, set_splice cs (o + j) v vs hoj] at H'
     exact H'
theorem Hp.stA (H : Hp w0 S L w) (i : Nat) {b o : Nat} {cs vs : List Value} {t ty m : TypeId} (hL : L[i]? = some (.blk b cs t)) (hs : aggSz P ty = some m) (hm : vs.length = m) (ho : o + m ≤ cs.length) (h1 : ∀ v ∈ vs, v.oneCell' = true) :
   ∃ w', (Instr.storeAt ty (.pointer (some ⟨b, o, none⟩)) (.agg vs.toArray)).run P w = .ok () w' ∧ Hp w0 S (L.set i (.blk b (cs.take o ++ vs ++ cs.drop (o + m)) t)) w' := by
 obtain ⟨w', hr, H'⟩ := Hp.stCells (P := P) i (b := b) (t := t) o vs 0 L w cs H hL (by omega) h1
 refine ⟨w', ?_, by simpa [hm] using H'⟩
 simp [Instr.storeAt, Instr.sureAddr, storeVar, run_sizeOf_agg hs, Value.cells, hm, hr]
theorem Hp.new (H : Hp w0 S L w) (cs : List Value) (t : TypeId) : Hp w0 S (L ++ [.blk w.heap.size cs t]) (w.alloc (.cells cs.toArray t)) := by
 refine H.callNew (L' := [.blk w.heap.size cs t]) ⟨rfl, rfl, rfl, by simp, fun k hk _ => heap_alloc_old w _ hk, ?_, ?_, by simp [ids, Ent.ids]⟩
 · intro e he
   simp at he
   subst he
   exact Blk.new w cs t
 · intro k hk
   simp [ids, Ent.ids] at hk
   omega
theorem Hp.box (H : Hp w0 S L w) (t : TypeId) (cs : List Value) (v : Value) (hv : v.cells = cs.toArray) :
   ∃ b w', (Instr.box t v).run P w = .ok (.pointer (some ⟨b, 0, none⟩)) w' ∧ Hp w0 S (L ++ [.blk b cs t]) w' :=
 ⟨w.heap.size, _, by simp [Instr.box, newVar, newRow, newObj, hv, Sem.run], H.new cs t⟩
def zeroOf (P : Program) (t : TypeId) : Option (List Value) := ((P.info? t).bind (·.zero)).map (·.cells.toList)
theorem Hp.alloc (H : Hp w0 S L w) (t : TypeId) (cs : List Value) (hz : zeroOf P t = some cs) :
   ∃ b w', (Instr.alloc t true (.tuple #[])).run P w = .ok (.pointer (some ⟨b, 0, none⟩)) w' ∧ Hp w0 S (L ++ [.blk b cs t]) w' := by
 refine ⟨w.heap.size, _, ?_, H.new cs t⟩
 unfold zeroOf at hz
 cases hi : P.info? t with
 | none => simp [hi] at hz
 | some i =>
   cases hzz : i.zero with
   | none => simp [hi, hzz] at hz
   | some z =>
     simp [hi, hzz] at hz
     have hzc : z.cells = cs.toArray := by rw [← hz]
     simp [Instr.alloc, zeroValue, typeInfo, hi, hzz, newVar, newRow, newObj, hzc, Sem.run]
end
end Go.Proofs.Ythcdelpdgkoioaa
namespace Go.Proofs.Ythcdelpdgkoioaa
open Go.RowKit
def semAt (ops : Array Oper) (M : FM) (i : Nat) : Option (Sem Next) :=
 match ops[i]? with
 | none => none
 | some o => match gdM ops M o with
   | some true => if known M o then some (execOp (evD M) o) else none
   | _ => none
def dstAt (ops : Array Oper) (i : Nat) : Option Nat := (ops[i]?).bind (·.dst)
def vN (s : Sem Value) : Sem Next := do pure (.value (← s))
def uN (s : Sem Unit) : Sem Next := do s; pure .skip
section
variable {P : Program} {ops : Array Oper} {Q : Exit → Act → World → Prop} {i n : Nat} {M M' : FM} {w w' : World}
theorem semAt_spec {s : Sem Next} (h : semAt ops M i = some s) : ∃ o, ops[i]? = some o ∧ gdM ops M o = some true ∧ known M o = true ∧ execOp (evD M) o = s ∧ dstAt ops i = o.dst := by
 unfold semAt at h
 split at h
 · cases h
 · rename_i o ho
   split at h
   · rename_i hg
     split at h
     · rename_i hk
       injection h with h
       exact ⟨o, ho, hg, hk, h, by simp [dstAt, ho]⟩
     · cases h
   · cases h
theorem putM_bind {d : Option Nat} {v : Value} {ts : List Nat} (hp : (putM n M d v).bind (pick ts) = some M') : ∃ M1, putM n M d v = some M1 ∧ pick ts M1 = some M' := by
 cases h : putM n M d v with
 | none => rw [h] at hp; cases hp
 | some M1 => rw [h] at hp; exact ⟨M1, rfl, hp⟩
theorem GL.semN {s : Sem Next} {v : Value} (hr : s.run P w = .ok (.value v) w') (ts : List Nat) (M' : FM) (hs : semAt ops M i = some s) (hp : (putM n M (dstAt ops i) v).bind (pick ts) = some M')
   {j : Nat} (hj : i + 1 = j) (h : GL P ops Q j n M' w') : GL P ops Q i n M w := by
 subst hj
 obtain ⟨o, ho, hg, hk, he, hd⟩ := semAt_spec hs
 obtain ⟨M1, h1, h2⟩ := putM_bind hp
 rw [hd] at h1
 exact GL.step ho hg (fun F hF hM => by rw [known_exec hM hk, he]; exact hr) h1 (GL.fit h2 h)
theorem GL.sem {s : Sem Value} {v : Value} (hr : s.run P w = .ok v w') (ts : List Nat) (M' : FM) (hs : semAt ops M i = some (vN s)) (hp : (putM n M (dstAt ops i) v).bind (pick ts) = some M')
   {j : Nat} (hj : i + 1 = j) (h : GL P ops Q j n M' w') : GL P ops Q i n M w :=
 GL.semN (by simp [vN, hr]) ts M' hs hp hj h
theorem GL.semU {s : Sem Unit} (hr : s.run P w = .ok () w') (ts : List Nat) (M' : FM) (hs : semAt ops M i = some (uN s)) (hd : dstAt ops i = none) (hp : pick ts M = some M')
   {j : Nat} (hj : i + 1 = j) (h : GL P ops Q j n M' w') : GL P ops Q i n M w := by
 subst hj
 obtain ⟨o, ho, hg, hk, he, hd'⟩ := semAt_spec hs
 rw [hd] at hd'
 intro F hF hM
 rw [drop_at ho]
 refine wpList_step fun K hK => ?_
 rw [gdM_fits hM hg, if_pos rfl]
 unfold Oper.wp
 rw [known_exec hM hk, he]
 have : (uN s).run P w = .ok .skip w' := by simp [uN, hr]
 rw [this]
 show K _ _
 rw [← hd']
 exact hK _ _ (h F hF (hM.pick hp))
theorem GL.call {f : FuncId} {args : Array Value} {R : Ending → World → Prop} (hc : Calls P f args w R) (hs : (semAt ops M i).bind (pev P) = some (.enter f args)) {j : Nat} (hj : i + 1 = j)
   (h : ∀ e w', R e w' → ∃ v, e = .returned v ∧ ∃ ts M', (putM n M (dstAt ops i) v).bind (pick ts) = some M' ∧ GL P ops Q j n M' w') : GL P ops Q i n M w := by
 subst hj
 cases hsm : semAt ops M i with
 | none => rw [hsm] at hs; cases hs
 | some s =>
   rw [hsm] at hs
   obtain ⟨o, ho, hg, hk, he, hd⟩ := semAt_spec hsm
   intro F hF hM
   rw [drop_at ho]
   refine wpList_step fun K hK => ?_
   rw [gdM_fits hM hg, if_pos rfl]
   unfold Oper.wp
   rw [known_exec hM hk, he, pev_run hs w]
   show Calls P f args w _
   refine hc.mono fun e w' hR => ?_
   obtain ⟨v, rfl, ts, M', hp, hG⟩ := h e w' hR
   obtain ⟨M1, h1, h2⟩ := putM_bind hp
   rw [hd] at h1
   have hp' := hM.put (d := o.dst) (v := v) (M' := M1) (by rw [hF]; exact h1)
   show K _ _
   rw [hp'.2.2]
   exact hK _ _ (hG _ (by rw [hp'.2.1, hF]) (hp'.1.pick h2))
def GQ (P : Program) (ops : Array Oper) (C : World → Prop) (Qa : Act → Prop) (i n : Nat) (M : FM) : Prop :=
 ∀ F : Array Value, F.size = n → Fits F M → wpQuiet P ops C Qa (ops.toList.drop i) ⟨F, []⟩
section
variable {C : World → Prop} {Qa : Act → Prop}
theorem GQ.step {o : Oper} {v : Value} (ho : ops[i]? = some o) (hg : gdM ops M o = some true) (hy : ∀ F : Array Value, F.size = n → Fits F M → ∀ w, C w → o.quietAt P ⟨F, []⟩ C w v)
   (hp : putM n M o.dst v = some M') (h : GQ P ops C Qa (i + 1) n M') : GQ P ops C Qa i n M := by
 intro F hF hM
 rw [drop_at ho]
 refine wpQuiet_step fun K hK => ?_
 rw [gdM_fits hM hg, if_pos rfl]
 have hp' := hM.put (d := o.dst) (v := v) (M' := M') (by rw [hF]; exact hp)
 refine ⟨v, hy F hF hM, ?_⟩
 rw [hp'.2.2]
 exact hK _ (h _ (by rw [hp'.2.1, hF]) hp'.1)
theorem GQ.skip_ {o : Oper} (ho : ops[i]? = some o) (hg : gdM ops M o = some false) (hp : putM n M o.dst undef = some M') (h : GQ P ops C Qa (i + 1) n M') : GQ P ops C Qa i n M := by
 intro F hF hM
 rw [drop_at ho]
 refine wpQuiet_step fun K hK => ?_
 rw [gdM_fits hM hg]
 simp only [Bool.false_eq_true, if_false]
 have hp' := hM.put (d := o.dst) (v := undef) (M' := M') (by rw [hF]; exact hp)
 rw [hp'.2.2]
 exact hK _ (h _ (by rw [hp'.2.1, hF]) hp'.1)
theorem GQ.batch_ : ∀ {k i : Nat} {M M' : FM}, batch P ops n k i M = some M' → GQ P ops C Qa (i + k) n M' → GQ P ops C Qa i n M
 | 0, i, M, M', hb, h => by
   simp [batch] at hb
   subst hb
   exact h
 | k + 1, i, M, M', hb, h => by
   have h' : GQ P ops C Qa (i + 1 + k) n M' := by rwa [show i + 1 + k = i + (k + 1) from by omega]
   unfold batch at hb
   split at hb
   · cases hb
   · rename_i o ho
     split at hb
     · cases hb
     · rename_i hg
       split at hb
       · rename_i M1 hp
         exact GQ.skip_ ho hg hp (GQ.batch_ hb h')
       · cases hb
     · rename_i hg
       split at hb
       · rename_i hk
         split at hb
         · rename_i v hv
           split at hb
           · rename_i M1 hp
             refine GQ.step ho hg (fun F hF hM w _ => ?_) hp (GQ.batch_ hb h')
             unfold Oper.quietAt
             rw [known_exec hM hk]
             unfold opPev at hv
             split at hv
             · rename_i u hu
               injection hv with hv
               subst hv
               rw [pev_run hu w]
               exact ⟨rfl, rfl⟩
             · cases hv
           · cases hb
         · cases hb
       · cases hb
theorem GQ.fit {ts : List Nat} (hp : pick ts M = some M') (h : GQ P ops C Qa i n M') : GQ P ops C Qa i n M := fun F hF hM => h F hF (hM.pick hp)
theorem GQ.run (k : Nat) (ts : List Nat) (M' : FM) {j : Nat} (hb : (batch P ops n k i M).bind (pick ts) = some M') (hj : i + k = j) (h : GQ P ops C Qa j n M') : GQ P ops C Qa i n M := by
 subst hj
 cases hm : batch P ops n k i M with
 | none => rw [hm] at hb; cases hb
 | some M1 =>
   rw [hm] at hb
   exact GQ.batch_ hm (GQ.fit hb h)
theorem GQ.semN {s : Sem Next} {v : Value} (hr : ∀ w, C w → s.run P w = .ok (.value v) w) (ts : List Nat) (M' : FM) (hs : semAt ops M i = some s) (hp : (putM n M (dstAt ops i) v).bind (pick ts) = some M')
   {j : Nat} (hj : i + 1 = j) (h : GQ P ops C Qa j n M') : GQ P ops C Qa i n M := by
 subst hj
 obtain ⟨o, ho, hg, hk, he, hd⟩ := semAt_spec hs
 obtain ⟨M1, h1, h2⟩ := putM_bind hp
 rw [hd] at h1
 refine GQ.step ho hg (fun F hF hM w hw => ?_) h1 (GQ.fit h2 h)
 unfold Oper.quietAt
 rw [known_exec hM hk, he, hr w hw]
 exact ⟨rfl, rfl⟩
theorem GQ.sem {s : Sem Value} {v : Value} (hr : ∀ w, C w → s.run P w = .ok v w) (ts : List Nat) (M' : FM) (hs : semAt ops M i = some (vN s)) (hp : (putM n M (dstAt ops i) v).bind (pick ts) = some M')
   {j : Nat} (hj : i + 1 = j) (h : GQ P ops C Qa j n M') : GQ P ops C Qa i n M :=
 GQ.semN (fun w hw => by simp [vN, hr w hw]) ts M' hs hp hj h
theorem GQ.done (hi : Nat.ble ops.size i = true) (h : ∀ F : Array Value, F.size = n → Fits F M → Qa ⟨F, []⟩) : GQ P ops C Qa i n M := by
 intro F hF hM
 rw [List.drop_eq_nil_of_le (by simpa using Nat.le_of_ble_eq_true hi)]
 exact wpQuiet_nil (h F hF hM)
theorem GQ.next {b : Code} {Q : Exit → Act → World → Prop} (hi : Nat.ble ops.size i = true) (h : ∀ w, C w → G P b Q n M w) : GQ P ops C (fun a' => ∀ w', C w' → Exit.then (fun a w => b.wp P Q a w) Q .normal a' w') i n M :=
 GQ.done hi fun F hF hM w hw => h w hw F hF hM
end
def GS (P : Program) (ops : Array Oper) (w : World) (Qa : Act → Prop) (k : Nat) (i n : Nat) (M : FM) : Prop :=
 ∀ F : Array Value, F.size = n → Fits F M → wpStill P ops w Qa ((ops.toList.take k).drop i) ⟨F, []⟩
section
variable {Qa : Act → Prop} {k : Nat}
theorem take_at {o : Oper} (ho : ops[i]? = some o) (hk : Nat.blt i k = true) : (ops.toList.take k).drop i = o :: (ops.toList.take k).drop (i + 1) := by
 have hlt : i < k := by simpa [Nat.blt_eq] using hk
 have h : (ops.toList.take k)[i]? = some o := by
   rw [List.getElem?_take_of_lt hlt]
   simpa using ho
 have hl : i < (ops.toList.take k).length := (List.getElem?_eq_some_iff.1 h).1
 rw [List.drop_eq_getElem_cons hl]
 congr 1
 exact (List.getElem?_eq_some_iff.1 h).2
theorem GS.step {o : Oper} {v : Value} (ho : ops[i]? = some o) (hk : Nat.blt i k = true) (hg : gdM ops M o = some true) (hy : ∀ F : Array Value, F.size = n → Fits F M → (execOp (⟨F, []⟩ : Act).eval o).run P w = .ok (.value v) w)
   (hp : putM n M o.dst v = some M') (h : GS P ops w Qa k (i + 1) n M') : GS P ops w Qa k i n M := by
 intro F hF hM
 rw [take_at ho hk]
 refine wpStill_step fun K hK => ?_
 rw [gdM_fits hM hg, if_pos rfl]
 have hp' := hM.put (d := o.dst) (v := v) (M' := M') (by rw [hF]; exact hp)
 unfold Oper.still
 rw [hy F hF hM]
 refine ⟨rfl, ?_⟩
 rw [hp'.2.2]
 exact hK _ (h _ (by rw [hp'.2.1, hF]) hp'.1)
theorem GS.skip_ {o : Oper} (ho : ops[i]? = some o) (hk : Nat.blt i k = true) (hg : gdM ops M o = some false) (hp : putM n M o.dst undef = some M') (h : GS P ops w Qa k (i + 1) n M') : GS P ops w Qa k i n M := by
 intro F hF hM
 rw [take_at ho hk]
 refine wpStill_step fun K hK => ?_
 rw [gdM_fits hM hg]
 simp only [Bool.false_eq_true, if_false]
 have hp' := hM.put (d := o.dst) (v := undef) (M' := M') (by rw [hF]; exact hp)
 rw [hp'.2.2]
 exact hK _ (h _ (by rw [hp'.2.1, hF]) hp'.1)
theorem GS.batch_ : ∀ {m i : Nat} {M M' : FM}, batch P ops n m i M = some M' → i + m ≤ k → GS P ops w Qa k (i + m) n M' → GS P ops w Qa k i n M
 | 0, i, M, M', hb, _, h => by
   simp [batch] at hb
   subst hb
   exact h
 | m + 1, i, M, M', hb, hk, h => by
   have h' : GS P ops w Qa k (i + 1 + m) n M' := by rwa [show i + 1 + m = i + (m + 1) from by omega]
   have hik : Nat.blt i k = true := by simp [Nat.blt_eq]; omega
   unfold batch at hb
   split at hb
   · cases hb
   · rename_i o ho
     split at hb
     · cases hb
     · rename_i hg
       split at hb
       · rename_i M1 hp
         exact GS.skip_ ho hik hg hp (GS.batch_ hb (by omega) h')
       · cases hb
     · rename_i hg
       split at hb
       · rename_i hkn
         split at hb
         · rename_i v hv
           split at hb
           · rename_i M1 hp
             refine GS.step ho hik hg (fun F hF hM => ?_) hp (GS.batch_ hb (by omega) h')
             rw [known_exec hM hkn]
             unfold opPev at hv
             split at hv
             · rename_i u hu
               injection hv with hv
               subst hv
               exact pev_run hu w
             · cases hv
           · cases hb
         · cases hb
       · cases hb
theorem GS.fit {ts : List Nat} (hp : pick ts M = some M') (h : GS P ops w Qa k i n M') : GS P ops w Qa k i n M := fun F hF hM => h F hF (hM.pick hp)
theorem GS.run (m : Nat) (ts : List Nat) (M' : FM) {j : Nat} (hb : (batch P ops n m i M).bind (pick ts) = some M') (hj : i + m = j) (hk : Nat.ble j k = true) (h : GS P ops w Qa k j n M') : GS P ops w Qa k i n M := by
 subst hj
 cases hm : batch P ops n m i M with
 | none => rw [hm] at hb; cases hb
 | some M1 =>
   rw [hm] at hb
   exact GS.batch_ hm (Nat.le_of_ble_eq_true hk) (GS.fit hb h)
theorem GS.eq {M' : FM} (he : M = M') (h : GS P ops w Qa k i n M') : GS P ops w Qa k i n M := he ▸ h
theorem GS.semN {s : Sem Next} {v : Value} (hr : s.run P w = .ok (.value v) w) (ts : List Nat) (M' : FM) (hs : semAt ops M i = some s) (hp : (putM n M (dstAt ops i) v).bind (pick ts) = some M')
   {j : Nat} (hj : i + 1 = j) (hk : Nat.ble j k = true) (h : GS P ops w Qa k j n M') : GS P ops w Qa k i n M := by
 subst hj
 obtain ⟨o, ho, hg, hkn, he, hd⟩ := semAt_spec hs
 obtain ⟨M1, h1, h2⟩ := putM_bind hp
 rw [hd] at h1
 have hlt := Nat.le_of_ble_eq_true hk
 exact GS.step ho (by simp [Nat.blt_eq]; omega) hg (fun F hF hM => by rw [known_exec hM hkn, he]; exact hr) h1 (GS.fit h2 h)
theorem GS.sem {s : Sem Value} {v : Value} (hr : s.run P w = .ok v w) (ts : List Nat) (M' : FM) (hs : semAt ops M i = some (vN s)) (hp : (putM n M (dstAt ops i) v).bind (pick ts) = some M')
   {j : Nat} (hj : i + 1 = j) (hk : Nat.ble j k = true) (h : GS P ops w Qa k j n M') : GS P ops w Qa k i n M :=
 GS.semN (by simp [vN, hr]) ts M' hs hp hj hk h
theorem GS.tail (hi : i = k) (h : GL P ops Q k n M w) : GS P ops w (fun a' => wpList P ops Q (ops.toList.drop k) a' w) k i n M := by
 subst hi
 intro F hF hM
 have : (ops.toList.take i).drop i = [] := List.drop_eq_nil_of_le (by simp; omega)
 rw [this]
 exact wpStill_nil (h F hF hM)
end
theorem G.tail {id : Nat} (k : Nat) (hm : P.follows .mixedOrders = true) (hB : Region.lexTailB .any ops k = true)
   (h : GS P ops { w with drawn := w.drawn + 1 } (fun a' => wpList P ops Q (ops.toList.drop k) a' { w with drawn := w.drawn + 1 }) k 0 n M) : G P (.region id ops true) Q n M w := fun F hF hM => by
 have := wp_region_still_tail (P := P) (Q := Q) (id := id) (l := ops.toList) k hm (by simpa using hB) (by simpa using h F hF hM)
 simpa using this
end
end Go.Proofs.Ythcdelpdgkoioaa
namespace Go.Proofs.Ythcdelpdgkoioaa
open Go.RowKit
section
variable {P : Program} {n : Nat} {M : FM} {w w' : World}
def RV (P : Program) (M : FM) (w : World) : ResultVar → Value → Prop
 | .tmp t, v => lk M t = some v
 | .cell a ty, v => ∃ ad, lk M a = some (.pointer (some ad)) ∧ (Instr.loadAt ty (.pointer (some ad))).run P w = .ok v w
theorem RV.tmp {t : Nat} {v : Value} (h : lk M t = some v) : RV P M w (.tmp t) v := h
theorem RV.cell {a ty : Nat} {ad : Addr} {v : Value} (h1 : lk M a = some (.pointer (some ad))) (h2 : (Instr.loadAt ty (.pointer (some ad))).run P w = .ok v w) : RV P M w (.cell a ty) v := ⟨ad, h1, h2⟩
def resOf (F : Array Value) : ResultVar → Sem Value
 | .tmp t => pure (F.getD t undef)
 | .cell a t => do loadVar t (← asAddr (F.getD a undef))
theorem RV.run {r : ResultVar} {v : Value} {F : Array Value} (hM : Fits F M) (h : RV P M w r v) : (resOf F r).run P w = .ok v w := by
 cases r with
 | tmp t =>
   have := hM.lk h
   simp [resOf, this]
 | cell a ty =>
   obtain ⟨ad, h1, h2⟩ := h
   have := hM.lk h1
   simp only [Instr.loadAt, Instr.sureAddr, Sem.run_bind, Sem.run_pure, Result.andThen_ok] at h2
   simp [resOf, this, asAddr, h2]
theorem results_resOf (fn : Func) (F : Array Value) : results fn F = (do
   let vs ← fn.results.mapM (resOf F)
   pure (if h : vs.size = 1 then vs[0] else .tuple vs)) := by
 unfold results
 congr 1
theorem run_mapM1 {α : Type} {f : α → Sem Value} {r : α} {v : Value} (h1 : (f r).run P w = .ok v w) : (#[r].mapM f).run P w = .ok #[v] w := by simp [h1]
theorem run_mapM2 {α : Type} {f : α → Sem Value} {r s : α} {v x : Value} (h1 : (f r).run P w = .ok v w) (h2 : (f s).run P w = .ok x w) : (#[r, s].mapM f).run P w = .ok #[v, x] w := by simp [h1, h2]
theorem run_mapM3 {α : Type} {f : α → Sem Value} {r s t : α} {v x y : Value} (h1 : (f r).run P w = .ok v w) (h2 : (f s).run P w = .ok x w) (h3 : (f t).run P w = .ok y w) : (#[r, s, t].mapM f).run P w = .ok #[v, x, y] w := by simp [h1, h2, h3]
theorem bodyPost_1 {fn : Func} {R : Ending → World → Prop} {r : ResultVar} {v : Value} (hr : fn.results = #[r]) (hv : RV P M w r v) (h : R (.returned v) w) :
   ∀ F : Array Value, F.size = n → Fits F M → bodyPost P fn R .ret ⟨F, []⟩ w := fun F _ hM =>
 ⟨rfl, v, by rw [results_resOf, hr]; simp only [Sem.run_bind, run_mapM1 (hv.run hM), Result.andThen_ok]; rfl, h⟩
theorem bodyPost_2 {fn : Func} {R : Ending → World → Prop} {r s : ResultVar} {v x : Value} (hr : fn.results = #[r, s]) (hv : RV P M w r v) (hx : RV P M w s x) (h : R (.returned (.tuple #[v, x])) w) :
   ∀ F : Array Value, F.size = n → Fits F M → bodyPost P fn R .ret ⟨F, []⟩ w := fun F _ hM =>
 ⟨rfl, .tuple #[v, x], by rw [results_resOf, hr]; simp only [Sem.run_bind, run_mapM2 (hv.run hM) (hx.run hM), Result.andThen_ok]; rfl, h⟩
theorem bodyPost_3 {fn : Func} {R : Ending → World → Prop} {r s t : ResultVar} {v x y : Value} (hr : fn.results = #[r, s, t]) (hv : RV P M w r v) (hx : RV P M w s x) (hy : RV P M w t y) (h : R (.returned (.tuple #[v, x, y])) w) :
   ∀ F : Array Value, F.size = n → Fits F M → bodyPost P fn R .ret ⟨F, []⟩ w := fun F _ hM =>
 ⟨rfl, .tuple #[v, x, y], by rw [results_resOf, hr]; simp only [Sem.run_bind, run_mapM3 (hv.run hM) (hx.run hM) (hy.run hM), Result.andThen_ok]; rfl, h⟩
theorem bodyPost_0 {fn : Func} {R : Ending → World → Prop} (hr : fn.results = #[]) (h : R (.returned (.tuple #[])) w) :
   ∀ F : Array Value, F.size = n → Fits F M → bodyPost P fn R .ret ⟨F, []⟩ w := bodyPost_tmps0 hr h
theorem GL.k {ops : Array Oper} {Q Q' : Exit → Act → World → Prop} {K : Act → World → Prop} {b : Code} {i : Nat} (hi : Nat.ble ops.size i = true) (hK : ∀ a w, b.wp P Q' a w → K a w) (hq : ∀ a w, K a w → Q .normal a w)
   (h : G P b Q' n M w) : GL P ops Q i n M w := GL.done hi fun F hF hM => hq _ _ (hK _ _ (h F hF hM))
theorem G.skipK {Q Q' : Exit → Act → World → Prop} {K : Act → World → Prop} {b : Code} (hK : ∀ a w, b.wp P Q' a w → K a w) (hq : ∀ a w, K a w → Q .normal a w)
   (h : G P b Q' n M w) : G P .skip Q n M w := fun F hF hM => wp_skip (hq _ _ (hK _ _ (h F hF hM)))
theorem G.exitK {Q Q' : Exit → Act → World → Prop} {K : Act → World → Prop} {b : Code} {id : Nat} (hK : ∀ a w, b.wp P Q' a w → K a w) (hq : ∀ a w, K a w → Q (.exit id) a w)
   (h : G P b Q' n M w) : G P (.exit id) Q n M w := fun F hF hM => wp_exit (hq _ _ (hK _ _ (h F hF hM)))
theorem G.seqK {Q : Exit → Act → World → Prop} {a b : Code} (h : ∀ K : Act → World → Prop, (∀ a w, b.wp P Q a w → K a w) → G P a (Exit.then K Q) n M w) : G P (.seq a b) Q n M w := fun F hF hM =>
 wp_seq_k fun K hK => h K hK F hF hM
theorem GQ.k {ops : Array Oper} {C : World → Prop} {Q Q' : Exit → Act → World → Prop} {K : Act → World → Prop} {b : Code} {i : Nat} (hi : Nat.ble ops.size i = true) (hK : ∀ a w, b.wp P Q' a w → K a w) (hq : ∀ a w, K a w → Q .normal a w)
   (h : ∀ w, C w → G P b Q' n M w) : GQ P ops C (fun a' => ∀ w', C w' → Q .normal a' w') i n M := GQ.done hi fun F hF hM w hw => hq _ _ (hK _ _ (h w hw F hF hM))
def slcOf (P : Program) (t : TypeId) : Option Nat :=
 match P.underlying t with
 | some (.slice e) => (P.info? e).map (·.size)
 | _ => none
theorem slcOf_spec {t sz : Nat} (h : slcOf P t = some sz) : ∃ e, P.underlying t = some (.slice e) ∧ ∀ w, (sizeOf e).run P w = .ok sz w := by
 unfold slcOf at h
 split at h
 · rename_i e hu
   cases hi : P.info? e with
   | none => simp [hi] at h
   | some i =>
     simp [hi] at h
     exact ⟨e, hu, fun w => by simp [sizeOf, typeInfo, hi, h]⟩
 · cases h
theorem addr_add (b o j : Nat) : (⟨b, o, none⟩ : Addr).add j = ⟨b, o + j, none⟩ := by unfold Addr.add; split <;> simp_all
theorem run_idxSl {t sz : Nat} {a : Addr} {len cap : Nat} {k : IntKind} {i : Int} {j : Nat} (ht : slcOf P t = some sz) (hi : i = (j : Int)) (hj : j < len) :
   (Instr.indexAt t (.slice (some a) len cap) (.int k i)).run P w = .ok (.pointer (some (a.add (j * sz)))) w := by
 obtain ⟨e, hu, hs⟩ := slcOf_spec ht
 subst hi
 have h1 : (0 : Int) ≤ (j : Int) ∧ (j : Int) < (len : Int) := ⟨by omega, by omega⟩
 simp only [Instr.indexAt, asIntOf, Sem.run_bind, Sem.run_pure, Result.andThen_ok, run_underlying hu]
 rw [if_pos h1]
 simp [hs]
end
theorem in_i64 {x : Int} (h : -9223372036854775808 ≤ x ∧ x ≤ 9223372036854775807) : IntKind.i64.wrap x = x := by rw [IntKind.wrap_i64]; omega
end Go.Proofs.Ythcdelpdgkoioaa
namespace Go.Proofs.Ythcdelpdgkoioaa
open Go.RowKit
def lst (N : Nat) : Nat → Array Bool
 | 0 => Array.replicate N false
 | i + 1 => (lst N i).setIfInBounds i true
def GH (P : Program) (ops : Array Oper) (Q : Exit → Act → World → Prop) (S : World → Prop) (i n : Nat) (M : FM) (w : World) : Prop :=
 ∀ F : Array Value, F.size = n → Fits F M → ∀ fuel, fuel + i = ops.size → Region.lexFrom .any ops fuel i (lst ops.size i) = true → Region.noSelect ops = true →
   (∀ c (a : Act) d v w, Q (.panic c) (a.put d v) w → Q (.panic c) a w) → wpAnyH P .any ops Q S fuel (lst ops.size i) ⟨F, []⟩ w
section
variable {P : Program} {ops : Array Oper} {Q : Exit → Act → World → Prop} {S : World → Prop} {i n : Nat} {M M' : FM} {w w' : World}
theorem ops_lt {o : Oper} (ho : ops[i]? = some o) : i < ops.size := (Array.getElem?_eq_some_iff.1 ho).1
theorem GH.take {o : Oper} {v : Value} (hS : S w) (ho : ops[i]? = some o) (hy : ∀ F : Array Value, F.size = n → Fits F M → YieldsIf P ops S o v ⟨F, []⟩) (hp : putM n M o.dst v = some M')
   (h : GH P ops Q S (i + 1) n M' w) : GH P ops Q S i n M w := by
 intro F hF hM fuel hfuel hlex hsel hQ
 cases fuel with
 | zero => have := ops_lt ho; omega
 | succ fuel =>
   simp only [Region.lexFrom, Bool.and_eq_true] at hlex
   obtain ⟨⟨hr, hf⟩, hlex⟩ := hlex
   have hp' := hM.put (d := o.dst) (v := v) (M' := M') (by rw [hF]; exact hp)
   refine wpAnyH_take ho hsel hf hr (fun c a w h => hQ c a _ _ w h) (hy F hF hM) hS ?_
   rw [hp'.2.2]
   exact h _ (by rw [hp'.2.1, hF]) hp'.1 fuel (by omega) hlex hsel hQ
theorem GH.batch_ (hS : S w) : ∀ {k i : Nat} {M M' : FM}, batch P ops n k i M = some M' → GH P ops Q S (i + k) n M' w → GH P ops Q S i n M w
 | 0, i, M, M', hb, h => by
   simp [batch] at hb
   subst hb
   exact h
 | k + 1, i, M, M', hb, h => by
   have h' : GH P ops Q S (i + 1 + k) n M' w := by rwa [show i + 1 + k = i + (k + 1) from by omega]
   unfold batch at hb
   split at hb
   · cases hb
   · rename_i o ho
     split at hb
     · cases hb
     · rename_i hg
       split at hb
       · rename_i M1 hp
         exact GH.take hS ho (fun F hF hM => .inr ⟨gdM_fits hM hg, rfl⟩) hp (GH.batch_ hS hb h')
       · cases hb
     · rename_i hg
       split at hb
       · rename_i hk
         split at hb
         · rename_i v hv
           split at hb
           · rename_i M1 hp
             refine GH.take hS ho (fun F hF hM => .inl ⟨gdM_fits hM hg, fun w _ => ?_⟩) hp (GH.batch_ hS hb h')
             rw [known_exec hM hk]
             unfold opPev at hv
             split at hv
             · rename_i u hu
               injection hv with hv
               subst hv
               exact pev_run hu w
             · cases hv
           · cases hb
         · cases hb
       · cases hb
theorem GH.fit {ts : List Nat} (hp : pick ts M = some M') (h : GH P ops Q S i n M' w) : GH P ops Q S i n M w := fun F hF hM => h F hF (hM.pick hp)
theorem GH.run (k : Nat) (ts : List Nat) (M' : FM) {j : Nat} (hb : (batch P ops n k i M).bind (pick ts) = some M') (hj : i + k = j) (hS : S w) (h : GH P ops Q S j n M' w) : GH P ops Q S i n M w := by
 subst hj
 cases hm : batch P ops n k i M with
 | none => rw [hm] at hb; cases hb
 | some M1 =>
   rw [hm] at hb
   exact GH.batch_ hS hm (GH.fit hb h)
theorem GH.made {s : Sem Value} {v : Value} (hr : s.run P w = .ok v w') (ts : List Nat) (M' : FM) (hs : semAt ops M i = some (vN s)) (hp : (putM n M (dstAt ops i) v).bind (pick ts) = some M')
   {j : Nat} (hj : i + 1 = j) (hone : Region.ready .any ops (lst ops.size i) = [i]) (hS : S w') (h : GH P ops Q S j n M' w') : GH P ops Q S i n M w := by
 subst hj
 obtain ⟨o, ho, hg, hk, he, hd⟩ := semAt_spec hs
 obtain ⟨M1, h1, h2⟩ := putM_bind hp
 rw [hd] at h1
 intro F hF hM fuel hfuel hlex hsel hQ
 cases fuel with
 | zero => have := ops_lt ho; omega
 | succ fuel =>
   simp only [Region.lexFrom, Bool.and_eq_true] at hlex
   refine wpAnyH_all hone (by simp) fun k hk' => ?_
   simp at hk'
   subst hk'
   unfold wpOp
   simp only [ho]
   rw [gdM_fits hM hg, if_pos rfl]
   refine .inl ?_
   unfold Oper.wp
   rw [known_exec hM hk, he]
   have : (vN s).run P w = .ok (.value v) w' := by simp [vN, hr]
   rw [this]
   have hp' := hM.put (d := o.dst) (v := v) (M' := M1) (by rw [hF]; exact h1)
   show S w' ∧ _
   rw [hp'.2.2]
   exact ⟨hS, h _ (by rw [hp'.2.1, hF]) (hp'.1.pick h2) fuel (by omega) hlex.2 hsel hQ⟩
theorem GH.done (hi : i = ops.size) (h : ∀ F : Array Value, F.size = n → Fits F M → Q .normal ⟨F, []⟩ w) : GH P ops Q S i n M w := by
 intro F hF hM fuel hfuel hlex _ _
 have h0 : fuel = 0 := by omega
 subst h0
 exact ⟨by simpa [Region.lexFrom] using hlex, h F hF hM⟩
theorem GH.k {Q' : Exit → Act → World → Prop} {K : Act → World → Prop} {b : Code} (hi : i = ops.size) (hK : ∀ a w, b.wp P Q' a w → K a w) (hq : ∀ a w, K a w → Q .normal a w)
   (h : G P b Q' n M w) : GH P ops Q S i n M w := GH.done hi fun F hF hM => hq _ _ (hK _ _ (h F hF hM))
def Holds (L : List Ent) (w : World) : Prop := ∀ e, e ∈ L → e.holds w
theorem Hp.holds {w0 : World} {S0 : List Nat} {L L' : List Ent} (H : Hp w0 S0 L w) (h : ∀ e, e ∈ L' → e ∈ L) : Holds L' w := fun e he => H.ents e (h e he)
theorem Holds.ld {L : List Ent} (H : Holds L w) (i : Nat) {b o : Nat} {cs : List Value} {t ty : TypeId} {v : Value} (hL : L[i]? = some (.blk b cs t)) (hs : scal P ty = true) (hv : cs[o]? = some v) :
   (Instr.loadAt ty (.pointer (some ⟨b, o, none⟩))).run P w = .ok v w := run_ld1 hs (by rw [Blk.cell (t := t) (H _ (List.mem_of_getElem? hL))]; exact hv)
theorem Holds.ldA {L : List Ent} (H : Holds L w) (i : Nat) {b o : Nat} {cs sub : List Value} {t ty m : TypeId} (hL : L[i]? = some (.blk b cs t)) (hs : aggSz P ty = some m) (hsub : (cs.drop o).take m = sub) (hl : sub.length = m) :
   (Instr.loadAt ty (.pointer (some ⟨b, o, none⟩))).run P w = .ok (.agg sub.toArray) w := run_ldA hs (H _ (List.mem_of_getElem? hL)) hsub hl
end
end Go.Proofs.Ythcdelpdgkoioaa
namespace Go.Proofs.Ythcdelpdgkoioaa
open Go.RowKit
section
variable {P : Program} {w0 w w' : World} {S : List Nat} {L : List Ent}
def RdS (w : World) (A : Option Addr) (xs : List Value) : Prop := xs = [] ∨ ∃ a, A = some a ∧ a.block < w.heap.size ∧ ∀ j v, xs[j]? = some v → w.cell? (a.add j) = some v
theorem add_block (a : Addr) (n : Nat) : (a.add n).block = a.block := by unfold Addr.add; split <;> rfl
theorem add_add (a : Addr) (i j : Nat) : (a.add i).add j = a.add (i + j) := by
 unfold Addr.add
 by_cases hi : i = 0 <;> by_cases hj : j = 0 <;> simp [hi, hj, Nat.add_assoc]
theorem RdS.nil (w : World) (A : Option Addr) : RdS w A [] := .inl rfl
theorem RdS.below {A : Option Addr} {xs : List Value} (h : RdS w A xs) (hb : Below w.heap.size w w') : RdS w' A xs := by
 rcases h with h | ⟨a, hA, ha, hc⟩
 · exact .inl h
 · exact .inr ⟨a, hA, Nat.lt_of_lt_of_le ha hb.size, fun j v hv => by rw [hb.cell (by rw [add_block]; exact ha)]; exact hc j v hv⟩
theorem RdS.hp {A : Option Addr} {xs : List Value} (h : RdS w0 A xs) (H : Hp w0 [] L w) : RdS w A xs := h.below H.below
theorem RdS.blk {b : Nat} {cs : List Value} {t : TypeId} (h : Blk w b cs t) (o n : Nat) {xs : List Value} (hx : (cs.drop o).take n = xs) : RdS w (some ⟨b, o, none⟩) xs := by
 refine .inr ⟨_, rfl, h.lt, fun j v hv => ?_⟩
 rw [addr_add, h.cell, ← hv, ← hx]
 have hj : j < n := by
   rw [← hx] at hv
   have := (List.getElem?_eq_some_iff.1 hv).1
   simp at this
   omega
 rw [List.getElem?_take_of_lt hj, List.getElem?_drop]
theorem RdS.row {A : Option Addr} {n c e : Nat} {xs : List Value} {b0 : Nat} (h : w.ownsRow b0 e 1 (.slice A n c) n xs) : RdS w A xs := by
 rcases h.2 with ⟨h0, hn⟩ | ⟨g, cap, cur, hv, _, hh, hnc, _, hsz, ht⟩
 · left
   have := h.1
   rw [hn] at this
   exact List.eq_nil_of_length_eq_zero (by simpa using this)
 · injection hv with hA
   subst hA
   refine .inr ⟨_, rfl, (Array.getElem?_eq_some_iff.1 hh).1, fun j v hv => ?_⟩
   rw [addr_add]
   have hj : j < n := by
     have := (List.getElem?_eq_some_iff.1 hv).1
     have := h.1
     omega
   rw [← ht, List.getElem?_take_of_lt (by omega)] at hv
   simp only [World.cell?, hh]
   simpa using hv
theorem Hp.rdRow (H : Hp w0 S L w) (i : Nat) {A : Option Addr} {n c e : Nat} {xs : List Value} (hL : L[i]? = some (.row A n c e 1 xs)) : RdS w A xs := RdS.row (H.rowAt i hL)
theorem Hp.rdBlk (H : Hp w0 S L w) (i : Nat) {b o : Nat} {cs : List Value} {t : TypeId} (n : Nat) {xs : List Value} (hL : L[i]? = some (.blk b cs t)) (hx : (cs.drop o).take n = xs) : RdS w (some ⟨b, o, none⟩) xs := RdS.blk (H.blkAt i hL) o n hx
theorem RdS.cell {A : Option Addr} {xs : List Value} (h : RdS w A xs) {j : Nat} {v : Value} (hv : xs[j]? = some v) : ∃ a, A = some a ∧ w.cell? (a.add j) = some v := by
 rcases h with h | ⟨a, hA, _, hc⟩
 · subst h
   simp at hv
 · exact ⟨a, hA, hc j v hv⟩
theorem RdS.take {A : Option Addr} {xs : List Value} (h : RdS w A xs) (n : Nat) : RdS w A (xs.take n) := by
 rcases h with h | ⟨a, hA, ha, hc⟩
 · subst h
   exact .inl (by simp)
 · refine .inr ⟨a, hA, ha, fun j v hv => hc j v ?_⟩
   have := (List.getElem?_eq_some_iff.1 hv).1
   rwa [List.getElem?_take_of_lt (by simp at this; omega)] at hv
theorem RdS.drop {A : Option Addr} {xs : List Value} {cap : Nat} (h : RdS w A xs) (k : Nat) (hcap : xs.length ≤ cap) : RdS w (if cap = k then A else A.map (·.add k)) (xs.drop k) := by
 by_cases hk : xs.length ≤ k
 · exact .inl (List.drop_eq_nil_of_le hk)
 · rcases h with h | ⟨a, hA, ha, hc⟩
   · subst h
     simp at hk
   · rw [if_neg (by omega), hA]
     refine .inr ⟨_, rfl, by rw [add_block]; exact ha, fun j v hv => ?_⟩
     rw [add_add]
     exact hc _ _ (by rw [← hv, List.getElem?_drop])
theorem RdS.load {A : Option Addr} {xs : List Value} (h : RdS w A xs) {a : Addr} (hA : A = some a) : (loadCells a xs.length).run P w = .ok xs.toArray w := by
 refine run_loadCells_list (P := P) w a xs (fun j v hv => ?_)
 obtain ⟨a', ha', hc⟩ := h.cell hv
 rw [hA] at ha'
 injection ha' with ha'
 subst ha'
 exact hc
def by8 (bs : List UInt8) : List Value := bs.map fun b => .int .u8 (b.toNat : Int)
theorem by8_length (bs : List UInt8) : (by8 bs).length = bs.length := by simp [by8]
theorem by8_one (bs : List UInt8) : ∀ v ∈ by8 bs, v.oneCell' = true := by
 intro v hv
 simp [by8] at hv
 obtain ⟨b, _, rfl⟩ := hv
 rfl
theorem by8_get (bs : List UInt8) (j : Nat) : (by8 bs)[j]? = (bs[j]?).map fun b => .int .u8 (b.toNat : Int) := by simp [by8]
def strOf (bs : List UInt8) : ByteArray := ⟨bs.toArray⟩
theorem strOf_toList (bs : List UInt8) : (strOf bs).toList = bs := by simp [strOf]
def isBytes (P : Program) (t : TypeId) : Bool :=
 match P.underlying t with
 | some (.slice e) => match P.underlying e with
   | some (.int .u8) => true
   | _ => false
 | _ => false
def isStr (P : Program) (t : TypeId) : Bool :=
 match P.underlying t with
 | some .string => true
 | _ => false
theorem isBytes_spec {t : TypeId} (h : isBytes P t = true) : ∃ e, P.underlying t = some (.slice e) ∧ P.underlying e = some (.int .u8) := by
 unfold isBytes at h
 split at h
 · rename_i e he
   split at h
   · exact ⟨e, he, by assumption⟩
   · cases h
 · cases h
theorem isStr_spec {t : TypeId} (h : isStr P t = true) : P.underlying t = some .string := by
 unfold isStr at h
 split at h
 · assumption
 · cases h
theorem foldl_push (l : List UInt8) : ∀ s : ByteArray, (l.map fun b => (b.toNat : Int)).foldl (fun r n => r.push (UInt8.ofNat n.toNat)) s = ⟨s.data ++ l.toArray⟩ := by
 induction l with
 | nil => intro s; simp
 | cons b l ih =>
   intro s
   simp only [List.map_cons, List.foldl_cons]
   rw [ih]
   have : (s.push (UInt8.ofNat ((b.toNat : Int)).toNat)).data = s.data.push b := by
     show s.data.push _ = _
     simp
   rw [this]
   simp
theorem run_toStr {src dst : TypeId} {A : Option Addr} {bs : List UInt8} {n c : Nat} (hs : isBytes P src = true) (hd : isStr P dst = true) (h : RdS w A (by8 bs)) (hn : n = bs.length) :
   (convert src dst (.slice A n c)).run P w = .ok (.string (strOf bs)) w := by
 obtain ⟨e, h1, h2⟩ := isBytes_spec hs
 rw [run_convert_bytes_string w src dst e A n c h1 h2 (isStr_spec hd)]
 subst hn
 cases A with
 | none =>
   rcases h with h | ⟨a, hA, _⟩
   · have : bs = [] := by simpa [by8] using h
     subst this
     rfl
   · cases hA
 | some a =>
   have hl := h.load (P := P) rfl
   rw [by8_length] at hl
   rw [run_bytesToString w a bs.length c (bs.map fun b => (b.toNat : Int)) (by rw [hl]; simp [by8, Function.comp_def]), foldl_push]
   have : ByteArray.empty.data = #[] := rfl
   rw [this]
   simp [strOf]
theorem run_str_eql {t : TypeId} (a b : List UInt8) (w : World) : (binOp .eql t (.string (strOf a)) (.string (strOf b))).run P w = .ok (.bool (a == b)) w := by
 simp [binOp, Op.stringOp, strOf_toList]
theorem run_str_neq {t : TypeId} (a b : List UInt8) (w : World) : (binOp .neq t (.string (strOf a)) (.string (strOf b))).run P w = .ok (.bool (!(a == b))) w := by
 simp [binOp, Op.stringOp, strOf_toList]
def nev {α : Type} (P : Program) : Sem α → Option (Obj × (Nat → Option α))
 | .new o k => some (o, fun r => pev P (k r))
 | .program k => nev P (k P)
 | .mark _ k => nev P k
 | _ => none
theorem nev_run {α : Type} : ∀ {s : Sem α} {o : Obj} {f : Nat → Option α}, nev P s = some (o, f) → ∀ (w : World) (a : α), f w.heap.size = some a → s.run P w = .ok a (w.alloc o) := by
 intro s
 induction s with
 | new o k _ => intro o' f h w a ha; simp only [nev, Option.some.injEq, Prod.mk.injEq] at h; obtain ⟨rfl, rfl⟩ := h; exact pev_run ha _
 | program k ih => intro o f h w a ha; simp only [nev] at h; simp only [Sem.run]; exact ih P h w a ha
 | mark m k ih => intro o f h w a ha; simp only [nev] at h; simp only [Sem.run]; exact ih h w a ha
 | _ => intro o f h; simp [nev] at h
theorem Hp.made (H : Hp w0 S L w) (s : Sem Value) (f : Nat → Value) (cs : List Value) (t : TypeId) (hs : nev P s = some (.cells cs.toArray t, fun r => some (f r))) :
   ∃ b w', s.run P w = .ok (f b) w' ∧ Hp w0 S (L ++ [.blk b cs t]) w' :=
 ⟨w.heap.size, _, nev_run hs w _ rfl, H.new cs t⟩
theorem Hp.turnNew (H : Hp w0 S L w) (i : Nat) {e e' : Ent} (hL : L[i]? = some e) (he : ∀ k ∈ e'.ids, k ∈ e.ids ∨ w.heap.size ≤ k) (hn : e'.ids.Nodup) (h' : e'.holds w') (hos : w'.os = w.os) (htape : w'.tape = w.tape) (hout : w'.output = w.output)
   (hsz : w.heap.size ≤ w'.heap.size) (hk : ∀ k, k < w.heap.size → k ∉ e.ids → w'.heap[k]? = w.heap[k]?) : Hp w0 S (L.set i e') w' := by
 have hi : i < L.length := (List.getElem?_eq_some_iff.1 hL).1
 have hmem : ∀ k, k ∈ ids (L.set i e') → k ∈ ids L ∨ w.heap.size ≤ k := by
   intro k hk'
   obtain ⟨x, hx, hkx⟩ := List.mem_flatMap.1 hk'
   rcases List.mem_or_eq_of_mem_set hx with hx | rfl
   · exact .inl (ids_mem hx hkx)
   · rcases he k hkx with h | h
     · exact .inl (ids_mem (List.mem_of_getElem? hL) h)
     · exact .inr h
 refine ⟨hos.trans H.os, htape.trans H.tape, hout.trans H.output, Nat.le_trans H.size hsz, ?_, ?_, ?_, ?_⟩
 · intro k hk0 hS
   refine (hk k (Nat.lt_of_lt_of_le hk0 H.size) (fun hin => ?_)).trans (H.keep k hk0 hS)
   rcases H.old k (ids_mem (List.mem_of_getElem? hL) hin) with h | h
   · omega
   · exact hS h
 · intro x hx
   obtain ⟨j, hj⟩ := List.getElem?_of_mem hx
   by_cases hij : i = j
   · subst hij
     rw [List.getElem?_set_self hi] at hj
     injection hj with hj
     subst hj
     exact h'
   · rw [List.getElem?_set_ne hij] at hj
     have hxx := H.ents x (List.mem_of_getElem? hj)
     refine Ent.same hxx (fun k hkx => hk k (Ent.lt hxx k hkx) (fun hke => ?_))
     exact other_ids H.nd hL hj hij hke hkx
 · intro k hk'
   rcases hmem k hk' with h | h
   · exact H.old k h
   · exact .inl (Nat.le_trans H.size h)
 · have key : ∀ (L : List Ent) (i : Nat), L[i]? = some e → (ids L).Nodup → (∀ k ∈ ids L, k < w.heap.size) → (ids (L.set i e')).Nodup := by
     intro L
     induction L with
     | nil => intro i h; simp at h
     | cons x r ih =>
       intro i hL hnd hlt
       rw [ids_cons] at hnd
       obtain ⟨n1, n2, n3⟩ := List.nodup_append.1 hnd
       cases i with
       | zero =>
         simp at hL
         subst hL
         simp only [List.set_cons_zero, ids_cons]
         refine List.nodup_append.2 ⟨hn, n2, fun a ha b hb hab => ?_⟩
         subst hab
         rcases he a ha with h | h
         · exact n3 a h a hb rfl
         · have := hlt a (by rw [ids_cons]; exact List.mem_append_right _ hb)
           omega
       | succ i =>
         simp only [List.set_cons_succ, ids_cons]
         have hlr : ∀ k ∈ ids r, k < w.heap.size := fun k hk => hlt k (by rw [ids_cons]; exact List.mem_append_right _ hk)
         refine List.nodup_append.2 ⟨n1, ih i (by simpa using hL) n2 hlr, fun a ha b hb hab => ?_⟩
         subst hab
         obtain ⟨y, hy, hay⟩ := List.mem_flatMap.1 hb
         rcases List.mem_or_eq_of_mem_set hy with hy | rfl
         · exact n3 a ha a (ids_mem hy hay) rfl
         · rcases he a hay with h | h
           · exact n3 a ha a (ids_mem (List.mem_of_getElem? (by simpa using hL)) h) rfl
           · have := hlt a (by rw [ids_cons]; exact List.mem_append_left _ ha)
             omega
   exact key L i hL H.nd H.lt
def elOf (P : Program) (t : TypeId) : Option (Nat × Nat × Nat) :=
 match P.underlying t with
 | some (.slice e) => match P.info? e with
   | some i => match i.zero with
     | some z => if z.cells.size = i.size ∧ 0 < i.size then some (e, i.size, i.bytes) else none
     | none => none
   | none => none
 | _ => none
theorem elOf_spec {t e sz by_ : Nat} (h : elOf P t = some (e, sz, by_)) : ∃ i z, P.underlying t = some (.slice e) ∧ P.info? e = some i ∧ i.zero = some z ∧ i.size = sz ∧ i.bytes = by_ ∧ z.cells.size = sz ∧ 0 < sz := by
 unfold elOf at h
 split at h
 · rename_i e' he
   split at h
   · rename_i i hi
     split at h
     · rename_i z hz
       split at h
       · rename_i hc
         simp only [Option.some.injEq, Prod.mk.injEq] at h
         obtain ⟨rfl, rfl, rfl⟩ := h
         exact ⟨i, z, he, hi, hz, rfl, rfl, hc.1, hc.2⟩
       · cases h
     · cases h
   · cases h
 · cases h
theorem own_ids {A : Option Addr} {n c e sz : Nat} {xs : List Value} : (Ent.row A n c e sz xs).ids.Nodup := by cases A <;> simp [Ent.ids]
theorem row_shape {v : Value} {e sz n : Nat} {xs : List Value} (h : w.ownsRow 0 e sz v n xs) : ∃ A c, v = .slice A n c := by
 rcases h.2 with ⟨rfl, rfl⟩ | ⟨g, cap, cur, rfl, _⟩
 · exact ⟨none, 0, rfl⟩
 · exact ⟨_, cap, rfl⟩
theorem Hp.append (H : Hp w0 S L w) (i : Nat) {A B : Option Addr} {n c m d t ty e sz by_ : Nat} {xs news : List Value} (hL : L[i]? = some (.row A n c e sz xs)) (ht : elOf P t = some (e, sz, by_)) (hr : RdS w B news) (hm : news.length = m * sz)
   (h1 : ∀ u ∈ news, u.oneCell' = true) (hb : (n + m) * by_ ≤ 140737488355328) (h63 : n + m ≤ maxLen) :
   ∃ A' c' w', (Builtin.append_ #[t, t] ty #[.slice A n c, .slice B m d]).run P w = .ok (.slice A' (n + m) c') w' ∧ Hp w0 S (L.set i (.row A' (n + m) c' e sz (xs ++ news))) w' := by
 obtain ⟨inf, z, hu, hi, hz, hsz, hby, hzc, hpos⟩ := elOf_spec ht
 have hown := H.rowAt i hL
 by_cases hm0 : m = 0
 · have hnil : news = [] := List.eq_nil_of_length_eq_zero (by rw [hm, hm0, Nat.zero_mul])
   subst hnil hm0
   refine ⟨A, c, w, ?_, ?_⟩
   · have hle : n ≤ c := by
       rcases hown.2 with ⟨h0, hn⟩ | ⟨g, cap, cur, hv, _, _, hnc, _⟩
       · omega
       · injection hv with _ _ hc
         omega
     have hfc : ∀ B, (Builtin.firstCells inf.size 0 (.slice B 0 d)).run P w = .ok #[] w := by
       intro B
       cases B <;> simp [Builtin.firstCells, loadCells, loadCellsFrom]
     cases A <;> simp [Builtin.append_, run_underlying hu, sizeOf, typeInfo, hi, Builtin.lenOf, hle, hfc, storeCells]
   · have hLi : i < L.length := (List.getElem?_eq_some_iff.1 hL).1
     have : L.set i (.row A (n + 0) c e sz (xs ++ [])) = L := by
       refine List.ext_getElem? (fun k => ?_)
       by_cases hk : i = k
       · subst hk
         rw [List.getElem?_set_self hLi, hL]
         simp
       · rw [List.getElem?_set_ne hk]
     rw [this]
     exact H
 · have hne : news ≠ [] := by
     intro h0
     subst h0
     have h0 : m * sz = 0 := by rw [← hm]; rfl
     rcases Nat.mul_eq_zero.1 h0 with h | h <;> omega
   obtain ⟨a, rfl, ha, hc⟩ : ∃ a, B = some a ∧ a.block < w.heap.size ∧ ∀ j v, news[j]? = some v → w.cell? (a.add j) = some v := by
     rcases hr with h | h
     · exact absurd h hne
     · exact h
   obtain ⟨v', w', hrun, hown', hg, _, hat⟩ := run_append_own_at (P := P) w 0 t ty e inf z sz by_ hu hi hz hsz hby hzc hpos (.slice A n c) n xs hown a m d news hm (fun j u hu => hc j u hu) h1 h63 hb (Nat.zero_le _)
   obtain ⟨A', c', rfl⟩ := row_shape hown'
   refine ⟨A', c', w', hrun, H.turnNew i hL ?_ own_ids hown' hg.os hg.tape hg.output hg.size ?_⟩
   · intro k hk
     have hk' : (Value.slice A' (n + m) c').ownBlock = some k := by
       cases A' with
       | none => simp [Ent.ids] at hk
       | some a' => simp [Ent.ids] at hk; simp [Value.ownBlock, hk]
     rcases hat with hat | hat
     · rw [hat] at hk'
       left
       cases A with
       | none => simp [Value.ownBlock] at hk'
       | some a0 => simp [Value.ownBlock] at hk'; simp [Ent.ids, hk']
     · rw [hat] at hk'
       injection hk' with hk'
       right
       omega
   · intro k hk hke
     refine hg.block k hk (fun h => hke ?_)
     cases A with
     | none => simp [Value.ownBlock] at h
     | some a0 => simp [Value.ownBlock] at h; simp [Ent.ids, h]
theorem Hp.rowNil (H : Hp w0 S L w) (e sz : Nat) : Hp w0 S (L ++ [.row none 0 0 e sz []]) w := by
 refine ⟨H.os, H.tape, H.output, H.size, H.keep, ?_, ?_, ?_⟩
 · intro x hx
   rcases List.mem_append.1 hx with hx | hx
   · exact H.ents x hx
   · simp at hx
     subst hx
     exact World.ownsRow_nil _ _ _ _
 · intro k hk
   rw [ids_append] at hk
   rcases List.mem_append.1 hk with hk | hk
   · exact H.old k hk
   · simp [ids, Ent.ids] at hk
 · rw [ids_append]
   simpa [ids, Ent.ids] using H.nd
theorem Hp.blkRow {b : Nat} {cs : List Value} {t : TypeId} (H : Hp w0 S (L ++ [.blk b cs t]) w) (hfz : w.heap[b]? = some (.cells cs.toArray t (0, 0))) {n c sz : Nat} (hn : n ≤ c) (hc : c ≤ maxLen) (hsz : cs.length = c * sz) :
   Hp w0 S (L ++ [.row (some ⟨b, 0, none⟩) n c t sz (cs.take (n * sz))]) w := by
 refine ⟨H.os, H.tape, H.output, H.size, H.keep, ?_, ?_, ?_⟩
 · intro x hx
   rcases List.mem_append.1 hx with hx | hx
   · exact H.ents x (List.mem_append_left _ hx)
   · simp at hx
     subst hx
     refine ⟨?_, .inr ⟨b, c, cs.toArray, rfl, Nat.zero_le _, hfz, hn, hc, by simpa using hsz, by simp⟩⟩
     rw [List.length_take, hsz]
     exact Nat.min_eq_left (Nat.mul_le_mul_right _ hn)
 · intro k hk
   refine H.old k ?_
   rw [ids_append] at hk ⊢
   simpa [ids, Ent.ids] using hk
 · have := H.nd
   rw [ids_append] at this ⊢
   simpa [ids, Ent.ids] using this
end
end Go.Proofs.Ythcdelpdgkoioaa
namespace Go.Proofs.Ythcdelpdgkoioaa
open Go.RowKit
section
variable {P : Program} {w0 w : World} {S : List Nat} {L : List Ent}
theorem Hp.mark (H : Hp w0 S L w) (i : Nat) {b o : Nat} {cs : List Value} {t T n c : Nat} (hL : L[i]? = some (.blk b cs t)) (ht : isBytes P T = true) :
   ∃ w', (convert T T (.slice (some ⟨b, o, none⟩) n c)).run P w = .ok (.slice (some ⟨b, o, none⟩) n c) w' ∧ Hp w0 S L w' := by
 obtain ⟨e, h1, h2⟩ := isBytes_spec ht
 obtain ⟨lo, hi, hb, hf⟩ := H.blkAt i hL
 have hlt : b < w.heap.size := (Array.getElem?_eq_some_iff.1 hb).1
 have hsh : w.shape? b = some (t, cs.length) := by simp [World.shape?, hb]
 let w' := w.freeze ⟨b, cs.length, none⟩ 1
 have hw' : w'.heap[b]? = some (.cells cs.toArray t (if lo == hi then (cs.length, cs.length + 1) else (min lo cs.length, max hi (cs.length + 1)))) := by
   simp [w', World.freeze, Array.getElem?_modify, hb]
 have hoth : ∀ k, k ≠ b → w'.heap[k]? = w.heap[k]? := by
   intro k hk
   simp only [w', World.freeze]
   rw [if_neg (by decide)]
   simp only [Array.getElem?_modify]
   rw [if_neg (fun h => hk h.symm)]
 have H' : Hp w0 S (L.set i (.blk b cs t)) w' := by
   refine H.turn i hL rfl ?_ rfl rfl rfl (by simp [w', World.freeze]) (fun k _ hk => hoth k (by simpa [Ent.ids] using hk))
   by_cases hlh : lo = hi
   · exact ⟨cs.length, cs.length + 1, by simpa [hlh] using hw', .inr (Nat.le_refl _)⟩
   · refine ⟨min lo cs.length, max hi (cs.length + 1), by simpa [hlh] using hw', .inr ?_⟩
     rcases hf with h | h
     · exact absurd h hlh
     · omega
 have hset : L.set i (.blk b cs t) = L := by
   have hLi : i < L.length := (List.getElem?_eq_some_iff.1 hL).1
   refine List.ext_getElem? (fun k => ?_)
   by_cases hk : i = k
   · subst hk
     rw [List.getElem?_set_self hLi, hL]
   · rw [List.getElem?_set_ne hk]
 rw [hset] at H'
 refine ⟨w', ?_, H'⟩
 simp [convert, run_underlying h1, run_underlying h2, markStringish, shape, freeze, Sem.run, hsh, w']
end
end Go.Proofs.Ythcdelpdgkoioaa
namespace Go.Proofs.Ythcdelpdgkoioaa
open Go.RowKit Go.ChangeShapes Go.WideShapes Go.ChangeAt
section
variable {H : Type} {enc : TypeId × Value → H} {P : Program} {w : World} {sp : Nat → Bool} {held : Bool}
def lv (P : Program) : Nat → TypeId → Nat → List (Nat × TypeId)
 | 0, t, o => [(o, t)]
 | n + 1, t, o =>
   match P.underlying t with
   | some (.struct fs) => fs.toList.flatMap fun f => lv P n f.type (o + f.offset)
   | some (.array len e) => (List.range len).flatMap fun i => lv P n e (o + i * P.cellsOf e)
   | _ => [(o, t)]
def lvOk (P : Program) : Nat → TypeId → Bool
 | 0, _ => true
 | n + 1, t =>
   match P.underlying t with
   | some (.struct fs) => fs.toList.all fun f => decide (f.offset + P.cellsOf f.type ≤ P.cellsOf t) && lvOk P n f.type
   | some (.array len e) => decide (len * P.cellsOf e ≤ P.cellsOf t) && lvOk P n e
   | _ => true
theorem cut_cut {cs : List Value} {o k a b : Nat} (h : a + b ≤ k) : (((cs.drop o).take k).drop a).take b = (cs.drop (o + a)).take b := by
 rw [List.drop_take, List.take_take, List.drop_drop, Nat.min_eq_left (by omega)]
theorem trod_leaves (n : Nat) : ∀ (fuel : Nat) (t : TypeId) (o : Nat) (cs : List Value) (x : DataW H × List MemPlace), lvOk P n t = true →
   DataW.trod enc P w 0 sp held fuel t ((cs.drop o).take (P.cellsOf t)) = some x →
   ∀ p ∈ lv P n t o, ∃ m y, DataW.trod enc P w 0 sp held m p.2 ((cs.drop p.1).take (P.cellsOf p.2)) = some y := by
 induction n with
 | zero =>
   intro fuel t o cs x _ h p hp
   simp only [lv, List.mem_singleton] at hp
   subst hp
   exact ⟨_, _, h⟩
 | succ n ih =>
   intro fuel t o cs x hok h p hp
   unfold lv at hp
   unfold lvOk at hok
   split at hp
   · rename_i fs hu
     rw [hu] at hok
     obtain ⟨xs, m, _, _, _, hlen, hel⟩ := DataW.trod_struct hu h
     obtain ⟨f, hf, hp⟩ := List.mem_flatMap.1 hp
     obtain ⟨i, hi, hif⟩ := List.getElem_of_mem hf
     have h0 := List.all_eq_true.1 hok f hf
     simp only [Bool.and_eq_true, decide_eq_true_eq] at h0
     have h1 := hel i f (by rw [← hif]; simp)
     rw [cut_cut h0.1, List.getElem?_eq_getElem (by simp at hi; omega)] at h1
     exact ih m f.type _ cs _ h0.2 h1 p hp
   · rename_i len e hu
     rw [hu] at hok
     obtain ⟨xs, m, _, _, _, hlen, hel⟩ := DataW.trod_array hu h
     obtain ⟨i, hi, hp⟩ := List.mem_flatMap.1 hp
     simp only [Bool.and_eq_true, decide_eq_true_eq] at hok
     simp only [List.mem_range] at hi
     have h1 := hel i hi
     have hle : i * P.cellsOf e + P.cellsOf e ≤ P.cellsOf t := Nat.le_trans (by rw [← Nat.succ_mul]; exact Nat.mul_le_mul_right _ hi) hok.1
     rw [cut_cut hle, List.getElem?_eq_getElem (by omega)] at h1
     exact ih m e _ cs _ hok.2 h1 p hp
   · simp only [List.mem_singleton] at hp
     subst hp
     exact ⟨_, _, h⟩
def Lf (enc : TypeId × Value → H) (P : Program) (w : World) (sp : Nat → Bool) (held : Bool) (cs : List Value) (o : Nat) (t : TypeId) : Prop :=
 ∃ m y, DataW.trod enc P w 0 sp held m t ((cs.drop o).take (P.cellsOf t)) = some y
theorem open_leaves (n : Nat) {t : TypeId} {cs : List Value} {fuel : Nat} {x : DataW H × List MemPlace} (hlen : cs.length = P.cellsOf t) (hok : lvOk P n t = true) (h : DataW.trod enc P w 0 sp held fuel t cs = some x)
   {ls : List (Nat × TypeId)} (hl : lv P n t 0 = ls) : ∀ p ∈ ls, Lf enc P w sp held cs p.1 p.2 := by
 intro p hp
 subst hl
 refine trod_leaves n fuel t 0 cs x hok ?_ p hp
 rwa [List.drop_zero, ← hlen, List.take_length]
theorem one_cell {cs : List Value} {o k : Nat} {v : Value} (h : (cs.drop o).take k = [v]) : cs[o]? = some v := by
 have h1 : ((cs.drop o).take k)[0]? = some v := by rw [h]; rfl
 rw [List.getElem?_take] at h1
 split at h1
 · rw [List.getElem?_drop] at h1
   simpa using h1
 · cases h1
theorem Lf.int {cs : List Value} {o : Nat} {t : TypeId} {k : IntKind} (ht : P.underlying t = some (.int k)) (h : Lf enc P w sp held cs o t) : ∃ n, cs[o]? = some (.int k n) ∧ (Lit.int k n).wf = true := by
 obtain ⟨m, y, h⟩ := h
 obtain ⟨n, e, _, hw⟩ := DataW.trod_int ht h
 exact ⟨n, one_cell e, hw⟩
theorem u8_wf {n : Int} (h : (Lit.int .u8 n).wf = true) : n = ((UInt8.ofNat n.toNat).toNat : Int) := by
 simp [Lit.wf, IntKind.min, IntKind.max, IntKind.signed, IntKind.bits] at h
 rw [UInt8.toNat_ofNat']
 omega
theorem Lf.u8 {cs : List Value} {o : Nat} {t : TypeId} (ht : P.underlying t = some (.int .u8)) (h : Lf enc P w sp held cs o t) : ∃ b : UInt8, cs[o]? = some (.int .u8 (b.toNat : Int)) := by
 obtain ⟨n, h1, h2⟩ := h.int ht
 exact ⟨UInt8.ofNat n.toNat, by rw [h1]; exact congrArg (fun z => some (Value.int .u8 z)) (u8_wf h2)⟩
theorem Lf.u64 {cs : List Value} {o : Nat} {t : TypeId} (ht : P.underlying t = some (.int .u64)) (h : Lf enc P w sp held cs o t) : ∃ n : Nat, cs[o]? = some (.int .u64 (n : Int)) ∧ n < 2 ^ 64 := by
 obtain ⟨n, h1, h2⟩ := h.int ht
 simp [Lit.wf, IntKind.min, IntKind.max, IntKind.signed, IntKind.bits] at h2
 exact ⟨n.toNat, by rw [h1, Int.toNat_of_nonneg h2.1], by omega⟩
theorem Lf.bool {cs : List Value} {o : Nat} {t : TypeId} (ht : P.underlying t = some .bool) (h : Lf enc P w sp held cs o t) : ∃ b, cs[o]? = some (.bool b) := by
 obtain ⟨m, y, h⟩ := h
 cases m with
 | zero => simp [DataW.trod] at h
 | succ m =>
   unfold DataW.trod at h
   rw [ht] at h
   split at h <;> simp_all
   rename_i e
   rw [one_cell e]
   simp
theorem open_u8s {t e : TypeId} {fuel : Nat} {cs : List Value} {x : DataW H × List MemPlace} (ht : P.underlying t = some (.slice e)) (he : P.underlying e = some (.int .u8)) (hc : P.cellsOf e = 1)
   (h : DataW.trod enc P w 0 sp held fuel t cs = some x) : ∃ A bs c, cs = [.slice A bs.length c] ∧ RdS w A (by8 bs) ∧ bs.length ≤ c ∧ c ≤ maxLen := by
 rcases open_ints ht he hc h with ⟨rfl, _⟩ | ⟨a, len, cap, zs, rfl, _, hl, hm, hz, _, hcell, hwz⟩
 · exact ⟨none, [], 0, rfl, .inl rfl, Nat.le_refl _, Nat.zero_le _⟩
 · have hzl : len ≤ zs.length := by rw [hz]; split <;> omega
   refine ⟨some a, (zs.take len).map fun z => UInt8.ofNat z.toNat, cap, by simp [Nat.min_eq_left hzl], ?_, by simp [Nat.min_eq_left hzl]; omega, hm⟩
   have hx : by8 ((zs.take len).map fun z => UInt8.ofNat z.toNat) = (zs.take len).map fun z => Value.int .u8 z := by
     simp only [by8, List.map_map]
     refine List.map_congr_left fun z hz' => ?_
     have := u8_wf (hwz z (List.mem_of_mem_take hz'))
     simp only [Function.comp]
     rw [← this]
   rw [hx]
   by_cases h0 : len = 0
   · exact .inl (by simp [h0])
   · refine .inr ⟨a, rfl, ?_, fun j v hv => ?_⟩
     · have := hcell 0 (by omega)
       have h2 : (a.add 0) = a := by simp [Addr.add]
       rw [h2] at this
       simp only [World.cell?] at this
       split at this
       · rename_i hh
         exact (Array.getElem?_eq_some_iff.1 hh).1
       · cases this
     · have hj : j < len := by
         have := (List.getElem?_eq_some_iff.1 hv).1
         simp at this
         omega
       have h1 := hcell j (by omega)
       rw [h1]
       have hv' : some (Value.int .u8 (zs.getD j 0)) = ((zs.take len).map fun z => Value.int .u8 z)[j]? := by
         rw [List.getElem?_map, List.getElem?_take_of_lt hj, List.getD, List.getElem?_eq_getElem (by omega)]
         rfl
       rw [hv', hv]
theorem Lf.bytes {cs : List Value} {o : Nat} {t e : TypeId} (ht : P.underlying t = some (.slice e)) (he : P.underlying e = some (.int .u8)) (hc : P.cellsOf e = 1) (h : Lf enc P w sp held cs o t) :
   ∃ A bs c, cs[o]? = some (.slice A bs.length c) ∧ RdS w A (by8 bs) ∧ bs.length ≤ c ∧ c ≤ maxLen := by
 obtain ⟨m, y, h⟩ := h
 obtain ⟨A, bs, c, e1, h1, h2, h3⟩ := open_u8s ht he hc h
 exact ⟨A, bs, c, one_cell e1, h1, h2, h3⟩
theorem open_int' {r : Reach} {b0 : Nat} {t : TypeId} {k : IntKind} {v : Value} {d : DataW H} {p : List MemPlace} (ht : P.underlying t = some (.int k)) (hv : Value.okWide P w r b0 t v) (h : DataW.Trod enc P w 0 sp held t v d p) :
   ∃ n, v = .int k n ∧ (Lit.int k n).wf = true := by
 obtain ⟨x, e1, _, _, hw⟩ := open_int ht hv h
 exact ⟨x, e1, hw⟩
end
end Go.Proofs.Ythcdelpdgkoioaa
namespace Go.Proofs.Ythcdelpdgkoioaa
open Go.RowKit
abbrev K : Nat := 18446744073709551616
abbrev pt (b o : Nat) : Value := .pointer (some ⟨b, o, none⟩)
end Go.Proofs.Ythcdelpdgkoioaa
namespace Go.Proofs.Ythcdelpdgkoioaa
open Go.RowKit
section
variable {P : Program} {w0 w : World} {S : List Nat} {L : List Ent}
theorem run_idxRd {t len cap : Nat} {A : Option Addr} {k : IntKind} {i : Int} {j : Nat} {xs : List Value} (ht : slcOf P t = some 1) (hi : i = (j : Int)) (hr : RdS w A xs) (hx : xs.length = len) (hj : j < len) :
   (Instr.indexAt t (.slice A len cap) (.int k i)).run P w = .ok (.pointer (A.map (·.add j))) w := by
 obtain ⟨a, rfl, _⟩ := hr.cell (j := j) (List.getElem?_eq_getElem (by omega))
 rw [run_idxSl ht hi hj]
 simp
theorem run_ldRd {ty : TypeId} {A : Option Addr} {j : Nat} {v : Value} {xs : List Value} (hs : scal P ty = true) (hr : RdS w A xs) (hv : xs[j]? = some v) : (Instr.loadAt ty (.pointer (A.map (·.add j)))).run P w = .ok v w := by
 obtain ⟨a, rfl, h⟩ := hr.cell hv
 exact run_ld1 hs h
theorem by8_drop (bs : List UInt8) (k : Nat) : (by8 bs).drop k = by8 (bs.drop k) := by simp [by8]
theorem RdS.drop8 {A : Option Addr} {bs cs : List UInt8} {cap : Nat} (h : RdS w A (by8 bs)) (l : Nat) (hcap : bs.length ≤ cap) (hc : bs.drop l = cs) : RdS w (if cap = l then A else A.map (·.add l)) (by8 cs) := by
 have := h.drop (cap := cap) l (by rw [by8_length]; omega)
 rwa [by8_drop, hc] at this
theorem by8_at {bs : List UInt8} {j : Nat} {b : UInt8} (h : bs[j]? = some b) : (by8 bs)[j]? = some (.int .u8 (b.toNat : Int)) := by rw [by8_get, h]; rfl
theorem Hp.madeRow (H : Hp w0 S L w) (s : Sem Value) (f : Nat → Value) (cs : List Value) (t n c sz : Nat) (hs : nev P s = some (.cells cs.toArray t, fun r => some (f r))) (hn : n ≤ c) (hc : c ≤ maxLen) (hsz : cs.length = c * sz) :
   ∃ b w', s.run P w = .ok (f b) w' ∧ Hp w0 S (L ++ [.row (some ⟨b, 0, none⟩) n c t sz (cs.take (n * sz))]) w' :=
 ⟨w.heap.size, _, nev_run hs w _ rfl, Hp.blkRow (H.new cs t) (heap_alloc_new w _) hn hc hsz⟩
theorem run_sl_nil {t n c sz : Nat} {A : Option Addr} (ht : slcOf P t = some sz) (w : World) : (binOp .eql t (.slice A n c) (.slice none 0 0)).run P w = .ok (.bool A.isNone) w := by
 obtain ⟨e, hu, _⟩ := slcOf_spec ht
 have h : (Op.equalIn (9999 + 1) t (.slice A n c) (.slice none 0 0)).run P w = .ok A.isNone w := by
   unfold Op.equalIn
   cases A <;> simp [run_underlying hu]
 show (do pure (.bool (← Op.equalIn (9999 + 1) t (.slice A n c) (.slice none 0 0))) : Sem Value).run P w = _
 simp only [Sem.run_bind, h, Result.andThen_ok, Sem.run_pure]
theorem Hp.rdRowN (H : Hp w0 S L w) (i : Nat) {A : Option Addr} {n c e sz : Nat} {xs : List Value} (hL : L[i]? = some (.row A n c e sz xs)) : RdS w A xs := by
 have h := H.rowAt i hL
 rcases h.2 with ⟨h0, hn⟩ | ⟨g, cap, cur, hv, _, hh, hnc, _, hsz, ht⟩
 · left
   have := h.1
   rw [hn, Nat.zero_mul] at this
   exact List.eq_nil_of_length_eq_zero this
 · injection hv with hA
   subst hA
   refine .inr ⟨_, rfl, (Array.getElem?_eq_some_iff.1 hh).1, fun j v hv => ?_⟩
   rw [addr_add]
   have hj : j < n * sz := by
     have := (List.getElem?_eq_some_iff.1 hv).1
     have := h.1
     omega
   rw [← ht, List.getElem?_take_of_lt (by omega)] at hv
   simp only [World.cell?, hh]
   simpa using hv
theorem Hp.stRow (H : Hp w0 S L w) (i : Nat) {A : Option Addr} {n c e sz q ty : Nat} {xs : List Value} {v : Value} (hL : L[i]? = some (.row A n c e sz xs)) (hs : scal P ty = true) (hq : q < xs.length) (h1 : v.oneCell' = true) :
   ∃ w', (Instr.storeAt ty (.pointer (A.map (·.add q))) v).run P w = .ok () w' ∧ Hp w0 S (L.set i (.row A n c e sz (xs.set q v))) w' := by
 have h := H.rowAt i hL
 rcases h.2 with ⟨h0, hn⟩ | ⟨g, cap, cur, hv, hbase, hh, hnc, hm, hsz, ht⟩
 · have := h.1
   rw [hn, Nat.zero_mul] at this
   omega
 · injection hv with hA _ hc
   subst hA
   have hql : q < n * sz := by rw [← h.1]; exact hq
   have hle : n * sz ≤ cap * sz := Nat.mul_le_mul_right _ hnc
   refine ⟨w.setCell ⟨g, q, none⟩ v, ?_, ?_⟩
   · have hcl : v.cells = #[v] := by cases v <;> simp_all [Value.cells, Value.oneCell']
     have hcc : w.cell? ⟨g, q, none⟩ = some xs[q] := by
       have h2 : xs[q]? = some xs[q] := List.getElem?_eq_getElem hq
       have h3 : w.cell? ⟨g, q, none⟩ = cur.toList[q]? := by simp [World.cell?, hh]
       rw [h3, ← h2, ← ht, List.getElem?_take_of_lt hql]
     have hfz : w.frozen? ⟨g, q, none⟩ = false := by simp [World.frozen?, hh]
     have hadd : (⟨g, 0, none⟩ : Addr).add q = ⟨g, q, none⟩ := by rw [addr_add]; simp
     have hadd0 : (⟨g, q, none⟩ : Addr).add 0 = ⟨g, q, none⟩ := rfl
     simp [Instr.storeAt, Instr.sureAddr, storeVar, run_sizeOf_scal hs, hcl, storeCells, hadd, hadd0, run_store P w _ v _ h1, hcc, hfz]
   · refine H.turn i hL rfl ?_ rfl rfl rfl (by simp [World.setCell]) (fun k _ hk => Below.heap_setCell w _ v k (by simpa [Ent.ids] using hk))
     refine ⟨by rw [List.length_set]; exact h.1, .inr ⟨g, cap, cur.set! q v, by rw [hc], hbase, ?_, by omega, hm, by simpa using hsz, ?_⟩⟩
     · simp [World.setCell, Array.getElem?_modify, hh]
     · rw [← ht]
       simp [List.take_set]
theorem by8_set (bs : List UInt8) (j : Nat) (b : UInt8) : (by8 bs).set j (.int .u8 (b.toNat : Int)) = by8 (bs.set j b) := by simp [by8, List.map_set]
end
end Go.Proofs.Ythcdelpdgkoioaa
namespace Go.Proofs.Ythcdelpdgkoioaa
open Go.RowKit
section
variable {P : Program} {ops : Array Oper} {Q : Exit → Act → World → Prop} {S S' : World → Prop} {i n : Nat} {M M' : FM} {w w' : World} {done : List Nat}
def lastB (ops : Array Oper) (k : Nat) : Bool := match ops[k]? with
 | some o => (List.range ops.size).all fun i => i == k || o.after.any fun e => Region.binds .any e && e.on == i
 | none => false
theorem lastB_spec {k : Nat} {o : Oper} (hk : ops[k]? = some o) (h : lastB ops k = true) (i : Nat) (hi : i < ops.size) (hne : i ≠ k) : ∃ e ∈ o.after, Region.binds .any e = true ∧ e.on = i := by
 unfold lastB at h
 rw [hk] at h
 have h1 := List.all_eq_true.1 h i (List.mem_range.2 hi)
 simp only [Bool.or_eq_true, beq_iff_eq, Array.any_eq_true', List.any_eq_true, Bool.and_eq_true] at h1
 rcases h1 with h1 | ⟨e, he, hb, ho⟩
 · exact absurd h1 hne
 · exact ⟨e, he, hb, ho⟩
def wpL (P : Program) (ops : Array Oper) (Q : Exit → Act → World → Prop) (S : World → Prop) : Nat → Array Bool → Act → World → Prop
 | 0, listed, a, w => Region.ready .any ops listed = [] ∧ Q .normal a w
 | fuel + 1, listed, a, w => (Region.ready .any ops listed = [] → Q .normal a w) ∧
   ∀ i ∈ Region.ready .any ops listed, wpOp P ops Q i (fun a' w' => (lastB ops i = false → S w') ∧ wpL P ops Q S fuel (listed.setIfInBounds i true) a' w') a w
theorem wpL_any : ∀ (fuel : Nat) (listed : Array Bool) (a : Act) (w : World), wpL P ops Q S fuel listed a w → wpAny P .any ops Q fuel listed a w
 | 0, _, _, _, h => h
 | fuel + 1, _, _, _, h => ⟨h.1, fun i hi => wpOp_mono (fun a' w' h' => wpL_any fuel _ a' w' h'.2) (h.2 i hi)⟩
theorem wpL_first {i : Nat} {oi : Oper} {v : Value} (hi : ops[i]? = some oi) (hsel : Region.noSelect ops = true) (hQ : ∀ c a w, Q (.panic c) (a.put oi.dst v) w → Q (.panic c) a w) :
   ∀ (fuel : Nat) (listed : Array Bool) (a : Act) (w : World),
     (∀ j oj, ops[j]? = some oj → j ≠ i → listed.getD j true = false → (∀ e ∈ oj.after, Region.binds .any e = true → e.on ≠ i) → oi.apart ops oj = true) →
     i ∈ Region.ready .any ops listed → YieldsIf P ops S oi v a → S w → wpL P ops Q S fuel (listed.setIfInBounds i true) (a.put oi.dst v) w → wpL P ops Q S (fuel + 1) listed a w := by
 intro fuel
 induction fuel with
 | zero =>
   intro listed a w _ hr hy hS H
   refine ⟨fun h => (by rw [h] at hr; cases hr), fun j hj => ?_⟩
   by_cases hji : j = i
   · subst hji
     exact hy.wpOp hi hS ⟨fun _ => hS, H⟩
   · have := ready_mono hj hji
     rw [H.1] at this
     cases this
 | succ fuel ih =>
   intro listed a w hfree hr hy hS H
   refine ⟨fun h => (by rw [h] at hr; cases hr), fun j hj => ?_⟩
   by_cases hji : j = i
   · subst hji
     exact hy.wpOp hi hS ⟨fun _ => hS, H⟩
   · obtain ⟨hjun, oj, hoj, hall⟩ := mem_ready.1 hj
     obtain ⟨hiun, _⟩ := mem_ready.1 hr
     have hun : ∀ d, listed.getD i d = false → i < listed.size := fun d h0 => by
       rcases Nat.lt_or_ge i listed.size with h' | h'
       · exact h'
       · cases d
         · simp only [Array.getD_eq_getD_getElem?, Array.getElem?_eq_none h', Option.getD_none] at hiun
           cases hiun
         · simp only [Array.getD_eq_getD_getElem?, Array.getElem?_eq_none h', Option.getD_none] at h0
           cases h0
     have hsz := hun true hiun
     have hif : listed.getD i false = false := by
       simp only [Array.getD_eq_getD_getElem?, Array.getElem?_eq_getElem hsz, Option.getD_some] at hiun ⊢
       exact hiun
     have hnot : ∀ e ∈ oj.after, Region.binds .any e = true → e.on ≠ i := fun e he hb heq => by
       have h1 := hall e he hb
       rw [heq, hif] at h1
       cases h1
     have hnl : lastB ops j = false := by
       cases hl : lastB ops j
       · rfl
       · obtain ⟨e, he, hb, ho⟩ := lastB_spec hoj hl i (Array.getElem?_eq_some_iff.1 hi).1 (fun h => hji h.symm)
         exact absurd ho (hnot e he hb)
     have h2 := wpOp_putIf hoj (hfree j oj hoj hji hjun hnot) (fun cs b => Region.noSelect_spec hsel i oi cs b hi) (fun cs b => Region.noSelect_spec hsel j oj cs b hoj) hQ hy (H.2 j (ready_mono hj hji))
     have hfree' : ∀ k ok, ops[k]? = some ok → k ≠ i → (listed.setIfInBounds j true).getD k true = false → (∀ e ∈ ok.after, Region.binds .any e = true → e.on ≠ i) → oi.apart ops ok = true := fun k ok hk hki hku hno => by
       refine hfree k ok hk hki ?_ hno
       by_cases hjk : j = k
       · subst hjk
         exact hjun
       · rwa [getD_set_ne true hjk] at hku
     refine wpOp_mono (fun a' w' h3 => ⟨h3.2.1, ih (listed.setIfInBounds j true) a' w' hfree' (ready_mono hr (fun h => hji h.symm)) h3.1 (h3.2.1 hnl) ?_⟩) h2
     rw [Array.setIfInBounds_comm _ _ hji]
     exact h3.2.2
theorem wpL_take {i : Nat} {oi : Oper} {v : Value} {fuel : Nat} {listed : Array Bool} {a : Act} {w : World} (hi : ops[i]? = some oi) (hs : Region.noSelect ops = true) (hf : Region.free .any ops listed i = true) (hr : (Region.ready .any ops listed).contains i = true)
   (hQ : ∀ c a w, Q (.panic c) (a.put oi.dst v) w → Q (.panic c) a w) (hy : YieldsIf P ops S oi v a) (hS : S w) (h : wpL P ops Q S fuel (listed.setIfInBounds i true) (a.put oi.dst v) w) : wpL P ops Q S (fuel + 1) listed a w :=
 wpL_first hi hs hQ fuel listed a w (Region.free_spec hi hf) (by simpa using hr) hy hS h
theorem wpL_all {rs : List Nat} {fuel : Nat} {listed : Array Bool} {a : Act} {w : World} (hr : Region.ready .any ops listed = rs) (hne : rs ≠ [])
   (h : ∀ i ∈ rs, wpOp P ops Q i (fun a' w' => S w' ∧ wpL P ops Q S fuel (listed.setIfInBounds i true) a' w') a w) : wpL P ops Q S (fuel + 1) listed a w :=
 ⟨fun h0 => absurd (hr ▸ h0) hne, fun i hi => wpOp_mono (fun _ _ h' => ⟨fun _ => h'.1, h'.2⟩) (h i (hr ▸ hi))⟩
theorem wpL_done {listed : Array Bool} {a : Act} {w : World} (hr : Region.ready .any ops listed = []) (h : Q .normal a w) : ∀ fuel, wpL P ops Q S fuel listed a w
 | 0 => ⟨hr, h⟩
 | _ + 1 => ⟨fun _ => h, by rw [hr]; simp⟩
def lsD (N : Nat) (done : List Nat) : Array Bool := done.foldl (fun a i => a.setIfInBounds i true) (Array.replicate N false)
theorem lsD_snoc (N : Nat) (done : List Nat) (i : Nat) : lsD N (done ++ [i]) = (lsD N done).setIfInBounds i true := by simp [lsD]
def may (ops : Array Oper) (done : List Nat) (i : Nat) : Bool := (Region.ready .any ops (lsD ops.size done)).contains i && Region.free .any ops (lsD ops.size done) i
def GP (P : Program) (ops : Array Oper) (Q : Exit → Act → World → Prop) (S : World → Prop) (done : List Nat) (n : Nat) (M : FM) (w : World) : Prop :=
 ∀ F : Array Value, F.size = n → Fits F M → Region.noSelect ops = true → (∀ c (a : Act) d v w, Q (.panic c) (a.put d v) w → Q (.panic c) a w) →
   ∀ fuel, wpL P ops Q S (fuel + (ops.size - done.length)) (lsD ops.size done) ⟨F, []⟩ w
theorem GP.take {o : Oper} {v : Value} (hS : S w) (ho : ops[i]? = some o) (hm : may ops done i = true) (hl : done.length < ops.size) (hy : ∀ F : Array Value, F.size = n → Fits F M → YieldsIf P ops S o v ⟨F, []⟩) (hp : putM n M o.dst v = some M')
   (h : GP P ops Q S (done ++ [i]) n M' w) : GP P ops Q S done n M w := by
 intro F hF hM hsel hQ fuel
 simp only [may, Bool.and_eq_true] at hm
 have hp' := hM.put (d := o.dst) (v := v) (M' := M') (by rw [hF]; exact hp)
 have e : fuel + (ops.size - done.length) = (fuel + (ops.size - (done ++ [i]).length)) + 1 := by simp; omega
 rw [e]
 refine wpL_take ho hsel hm.2 hm.1 (fun c a w h => hQ c a _ _ w h) (hy F hF hM) hS ?_
 rw [hp'.2.2, ← lsD_snoc]
 exact h _ (by rw [hp'.2.1, hF]) hp'.1 hsel hQ fuel
def batchP (P : Program) (ops : Array Oper) (n : Nat) : List Nat → List Nat → FM → Option FM
 | _, [], M => some M
 | done, i :: r, M =>
   match ops[i]? with
   | none => none
   | some o => if may ops done i && Nat.blt done.length ops.size then
       match gdM ops M o with
       | none => none
       | some false => match putM n M o.dst undef with
         | some M1 => batchP P ops n (done ++ [i]) r M1
         | none => none
       | some true => if known M o then match opPev P M o with
           | some v => match putM n M o.dst v with
             | some M1 => batchP P ops n (done ++ [i]) r M1
             | none => none
           | none => none
         else none
     else none
theorem GP.batch_ (hS : S w) : ∀ {r done : List Nat} {M M' : FM}, batchP P ops n done r M = some M' → GP P ops Q S (done ++ r) n M' w → GP P ops Q S done n M w
 | [], done, M, M', hb, h => by
   simp [batchP] at hb
   subst hb
   simpa using h
 | i :: r, done, M, M', hb, h => by
   have h' : GP P ops Q S ((done ++ [i]) ++ r) n M' w := by rwa [List.append_assoc]
   unfold batchP at hb
   split at hb
   · cases hb
   · rename_i o ho
     split at hb
     · rename_i hc
       simp only [Bool.and_eq_true] at hc
       have hl : done.length < ops.size := by simpa [Nat.blt_eq] using hc.2
       split at hb
       · cases hb
       · rename_i hg
         split at hb
         · rename_i M1 hp
           exact GP.take hS ho hc.1 hl (fun F hF hM => .inr ⟨gdM_fits hM hg, rfl⟩) hp (GP.batch_ hS hb h')
         · cases hb
       · rename_i hg
         split at hb
         · rename_i hk
           split at hb
           · rename_i v hv
             split at hb
             · rename_i M1 hp
               refine GP.take hS ho hc.1 hl (fun F hF hM => .inl ⟨gdM_fits hM hg, fun w _ => ?_⟩) hp (GP.batch_ hS hb h')
               rw [known_exec hM hk]
               unfold opPev at hv
               split at hv
               · rename_i u hu
                 injection hv with hv
                 subst hv
                 exact pev_run hu w
               · cases hv
             · cases hb
           · cases hb
         · cases hb
     · cases hb
theorem GP.fit {ts : List Nat} (hp : pick ts M = some M') (h : GP P ops Q S done n M' w) : GP P ops Q S done n M w := fun F hF hM => h F hF (hM.pick hp)
theorem GP.run (r : List Nat) (ts : List Nat) (M' : FM) (done' : List Nat) (hb : (batchP P ops n done r M).bind (pick ts) = some M') (hj : done ++ r = done') (hS : S w) (h : GP P ops Q S done' n M' w) : GP P ops Q S done n M w := by
 subst hj
 cases hm : batchP P ops n done r M with
 | none => rw [hm] at hb; cases hb
 | some M1 =>
   rw [hm] at hb
   exact GP.batch_ hS hm (GP.fit hb h)
def mayB (ops : Array Oper) (done : List Nat) (i : Nat) : Bool := may ops done i && Nat.blt done.length ops.size
theorem GP.semN {s : Sem Next} {v : Value} (i : Nat) (hr : ∀ w, S w → s.run P w = .ok (.value v) w) (ts : List Nat) (M' : FM) (hs : semAt ops M i = some s) (hp : (putM n M (dstAt ops i) v).bind (pick ts) = some M')
   (hm : mayB ops done i = true) (hS : S w) (h : GP P ops Q S (done ++ [i]) n M' w) : GP P ops Q S done n M w := by
 simp only [mayB, Bool.and_eq_true] at hm
 obtain ⟨o, ho, hg, hk, he, hd⟩ := semAt_spec hs
 obtain ⟨M1, h1, h2⟩ := putM_bind hp
 rw [hd] at h1
 exact GP.take hS ho hm.1 (by simpa [Nat.blt_eq] using hm.2) (fun F hF hM => .inl ⟨gdM_fits hM hg, fun w hw => by rw [known_exec hM hk, he]; exact hr w hw⟩) h1 (GP.fit h2 h)
theorem GP.sem {s : Sem Value} {v : Value} (i : Nat) (hr : ∀ w, S w → s.run P w = .ok v w) (ts : List Nat) (M' : FM) (hs : semAt ops M i = some (vN s)) (hp : (putM n M (dstAt ops i) v).bind (pick ts) = some M')
   (hm : mayB ops done i = true) (hS : S w) (h : GP P ops Q S (done ++ [i]) n M' w) : GP P ops Q S done n M w :=
 GP.semN i (fun w hw => by simp [vN, hr w hw]) ts M' hs hp hm hS h
def oneB (ops : Array Oper) (done : List Nat) (i : Nat) : Bool := decide (Region.ready .any ops (lsD ops.size done) = [i]) && Nat.blt done.length ops.size
theorem GP.all {o : Oper} (i : Nat) (hone : oneB ops done i = true) (ho : ops[i]? = some o) (hg : gdM ops M o = some true)
   (h : ∀ F : Array Value, F.size = n → Fits F M → Region.noSelect ops = true → (∀ c (a : Act) d v w, Q (.panic c) (a.put d v) w → Q (.panic c) a w) → ∀ fuel,
     Oper.wp P o ⟨F, []⟩ w (fun a' w' => S w' ∧ wpL P ops Q S (fuel + (ops.size - (done ++ [i]).length)) (lsD ops.size (done ++ [i])) a' w') Q) : GP P ops Q S done n M w := by
 intro F hF hM hsel hQ fuel
 simp only [oneB, Bool.and_eq_true, decide_eq_true_eq] at hone
 have hl : done.length < ops.size := by simpa [Nat.blt_eq] using hone.2
 have e : fuel + (ops.size - done.length) = (fuel + (ops.size - (done ++ [i]).length)) + 1 := by simp; omega
 rw [e]
 refine wpL_all hone.1 (by simp) fun k hk => ?_
 simp at hk
 subst hk
 unfold wpOp
 simp only [ho]
 rw [gdM_fits hM hg, if_pos rfl, ← lsD_snoc]
 exact .inl (h F hF hM hsel hQ fuel)
theorem GP.semU {s : Sem Unit} (i : Nat) (hr : s.run P w = .ok () w') (ts : List Nat) (M' : FM) (hs : semAt ops M i = some (uN s)) (hd : dstAt ops i = none) (hp : pick ts M = some M')
   (hone : oneB ops done i = true) (hS : S w') (h : GP P ops Q S (done ++ [i]) n M' w') : GP P ops Q S done n M w := by
 obtain ⟨o, ho, hg, hk, he, hd'⟩ := semAt_spec hs
 rw [hd] at hd'
 refine GP.all i hone ho hg fun F hF hM hsel hQ fuel => ?_
 unfold Oper.wp
 rw [known_exec hM hk, he]
 have : (uN s).run P w = .ok .skip w' := by simp [uN, hr]
 rw [this]
 show S w' ∧ _
 rw [← hd']
 exact ⟨hS, h F hF (hM.pick hp) hsel hQ fuel⟩
theorem GP.made {s : Sem Value} {v : Value} (i : Nat) (hr : s.run P w = .ok v w') (ts : List Nat) (M' : FM) (hs : semAt ops M i = some (vN s)) (hp : (putM n M (dstAt ops i) v).bind (pick ts) = some M')
   (hone : oneB ops done i = true) (hS : S w') (h : GP P ops Q S (done ++ [i]) n M' w') : GP P ops Q S done n M w := by
 obtain ⟨o, ho, hg, hk, he, hd⟩ := semAt_spec hs
 obtain ⟨M1, h1, h2⟩ := putM_bind hp
 rw [hd] at h1
 refine GP.all i hone ho hg fun F hF hM hsel hQ fuel => ?_
 unfold Oper.wp
 rw [known_exec hM hk, he]
 have : (vN s).run P w = .ok (.value v) w' := by simp [vN, hr]
 rw [this]
 have hp' := hM.put (d := o.dst) (v := v) (M' := M1) (by rw [hF]; exact h1)
 show S w' ∧ _
 rw [hp'.2.2]
 exact ⟨hS, h _ (by rw [hp'.2.1, hF]) (hp'.1.pick h2) hsel hQ fuel⟩
theorem GP.call {f : FuncId} {args : Array Value} {R : Ending → World → Prop} (i : Nat) (hc : Calls P f args w R) (hs : (semAt ops M i).bind (pev P) = some (.enter f args)) (hone : oneB ops done i = true)
   (h : ∀ e w', R e w' → ∃ v, e = .returned v ∧ S w' ∧ ∃ ts M', (putM n M (dstAt ops i) v).bind (pick ts) = some M' ∧ GP P ops Q S (done ++ [i]) n M' w') : GP P ops Q S done n M w := by
 cases hsm : semAt ops M i with
 | none => rw [hsm] at hs; cases hs
 | some s =>
   rw [hsm] at hs
   obtain ⟨o, ho, hg, hk, he, hd⟩ := semAt_spec hsm
   refine GP.all i hone ho hg fun F hF hM hsel hQ fuel => ?_
   unfold Oper.wp
   rw [known_exec hM hk, he, pev_run hs w]
   show Calls P f args w _
   refine hc.mono fun e w' hR => ?_
   obtain ⟨v, rfl, hS, ts, M', hp, hG⟩ := h e w' hR
   obtain ⟨M1, h1, h2⟩ := putM_bind hp
   rw [hd] at h1
   have hp' := hM.put (d := o.dst) (v := v) (M' := M1) (by rw [hF]; exact h1)
   show S w' ∧ _
   rw [hp'.2.2]
   exact ⟨hS, hG _ (by rw [hp'.2.1, hF]) (hp'.1.pick h2) hsel hQ fuel⟩
theorem GP.fin (hi : Region.ready .any ops (lsD ops.size done) = []) (h : ∀ F : Array Value, F.size = n → Fits F M → Q .normal ⟨F, []⟩ w) : GP P ops Q S done n M w :=
 fun F hF hM _ _ fuel => wpL_done hi (h F hF hM) _
theorem GP.k {Q' : Exit → Act → World → Prop} {K : Act → World → Prop} {b : Code} (hi : Region.ready .any ops (lsD ops.size done) = []) (hK : ∀ a w, b.wp P Q' a w → K a w) (hq : ∀ a w, K a w → Q .normal a w)
   (h : G P b Q' n M w) : GP P ops Q S done n M w := GP.fin hi fun F hF hM => hq _ _ (hK _ _ (h F hF hM))
theorem G.heldP {id : Nat} (S : World → Prop) (hm : P.follows .mixedOrders = true) (hB : Region.noSelect ops = true) (hQ : ∀ c (a : Act) d v w, Q (.panic c) (a.put d v) w → Q (.panic c) a w)
   (h : GP P ops Q S [] n M { w with drawn := w.drawn + 1 }) : G P (.region id ops true) Q n M w := fun F hF hM =>
 wp_region_any hm (wpL_any _ _ _ _ (by simpa [lsD] using h F hF hM hB hQ 0))
def Hd (w0 : World) (L : List Ent) (w : World) : Prop := Below w0.heap.size w0 w ∧ Holds L w
theorem Hd.hp {w0 : World} {L : List Ent} (h : Hd w0 L w) {A : Option Addr} {xs : List Value} (hr : RdS w0 A xs) : RdS w A xs := hr.below h.1
theorem Hd.ld {w0 : World} {L : List Ent} (H : Hd w0 L w) (i : Nat) {b o : Nat} {cs : List Value} {t ty : TypeId} {v : Value} (hL : L[i]? = some (.blk b cs t)) (hs : scal P ty = true) (hv : cs[o]? = some v) :
   (Instr.loadAt ty (.pointer (some ⟨b, o, none⟩))).run P w = .ok v w := H.2.ld i hL hs hv
theorem Hd.ldA {w0 : World} {L : List Ent} (H : Hd w0 L w) (i : Nat) {b o : Nat} {cs sub : List Value} {t ty m : TypeId} (hL : L[i]? = some (.blk b cs t)) (hs : aggSz P ty = some m) (hsub : (cs.drop o).take m = sub) (hl : sub.length = m) :
   (Instr.loadAt ty (.pointer (some ⟨b, o, none⟩))).run P w = .ok (.agg sub.toArray) w := H.2.ldA i hL hs hsub hl
theorem row_rd {A : Option Addr} {n c e sz : Nat} {xs : List Value} (h : w.ownsRow 0 e sz (.slice A n c) n xs) : RdS w A xs := by
 have H : Hp w [] [.row A n c e sz xs] w → RdS w A xs := fun H => H.rdRowN 0 rfl
 rcases h.2 with ⟨h0, hn⟩ | ⟨g, cap, cur, hv, _, hh, hnc, _, hsz, ht⟩
 · left
   have := h.1
   rw [hn, Nat.zero_mul] at this
   exact List.eq_nil_of_length_eq_zero this
 · injection hv with hA
   subst hA
   refine .inr ⟨_, rfl, (Array.getElem?_eq_some_iff.1 hh).1, fun j v hv => ?_⟩
   rw [addr_add]
   have hj : j < n * sz := by
     have := (List.getElem?_eq_some_iff.1 hv).1
     have := h.1
     omega
   rw [← ht, List.getElem?_take_of_lt (by omega)] at hv
   simp only [World.cell?, hh]
   simpa using hv
theorem Hd.rdRow {w0 : World} {L : List Ent} (H : Hd w0 L w) (i : Nat) {A : Option Addr} {n c e sz : Nat} {xs : List Value} (hL : L[i]? = some (.row A n c e sz xs)) : RdS w A xs := row_rd (H.2 _ (List.mem_of_getElem? hL))
theorem Hd.rdBlk {w0 : World} {L : List Ent} (H : Hd w0 L w) (i : Nat) {b o : Nat} {cs : List Value} {t : TypeId} (n : Nat) {xs : List Value} (hL : L[i]? = some (.blk b cs t)) (hx : (cs.drop o).take n = xs) : RdS w (some ⟨b, o, none⟩) xs :=
 RdS.blk (H.2 _ (List.mem_of_getElem? hL)) o n hx
end
end Go.Proofs.Ythcdelpdgkoioaa
namespace Go.Proofs.Ythcdelpdgkoioaa
open Go.RowKit
section
variable {P : Program} {ops : Array Oper} {Q : Exit → Act → World → Prop} {S : World → Prop} {i n : Nat} {M M' : FM} {w w' : World} {done : List Nat}
def GO (P : Program) (ops : Array Oper) (Q : Exit → Act → World → Prop) (S : World → Prop) (done : List Nat) (i n : Nat) (M : FM) (w : World) : Prop :=
 ∀ F : Array Value, F.size = n → Fits F M → Region.noSelect ops = true → (∀ c (a : Act) d v w, Q (.panic c) (a.put d v) w → Q (.panic c) a w) → ∀ fuel,
   wpOp P ops Q i (fun a' w' => S w' ∧ wpL P ops Q S (fuel + (ops.size - (done ++ [i]).length)) (lsD ops.size (done ++ [i])) a' w') ⟨F, []⟩ w
def rdyB (ops : Array Oper) (done rs : List Nat) : Bool := decide (Region.ready .any ops (lsD ops.size done) = rs) && !rs.isEmpty && Nat.blt done.length ops.size
theorem GP.alls (rs : List Nat) (hr : rdyB ops done rs = true) (h : ∀ i ∈ rs, GO P ops Q S done i n M w) : GP P ops Q S done n M w := by
 intro F hF hM hsel hQ fuel
 simp only [rdyB, Bool.and_eq_true, decide_eq_true_eq] at hr
 have hl : done.length < ops.size := by simpa [Nat.blt_eq] using hr.2
 refine (show wpL P ops Q S (fuel + (ops.size - done.length)) (lsD ops.size done) ⟨F, []⟩ w from ?_)
 have e : ∀ i, fuel + (ops.size - done.length) = (fuel + (ops.size - (done ++ [i]).length)) + 1 := fun i => by simp; omega
 rw [e 0]
 refine wpL_all hr.1.1 (by intro h0; rw [h0] at hr; simp at hr) fun k hk => ?_
 have := h k hk F hF hM hsel hQ fuel
 rw [lsD_snoc] at this
 simpa using this
theorem GP.all2 (i j : Nat) (hr : rdyB ops done [i, j] = true) (h1 : GO P ops Q S done i n M w) (h2 : GO P ops Q S done j n M w) : GP P ops Q S done n M w :=
 GP.alls _ hr fun k hk => by
   simp only [List.mem_cons, List.not_mem_nil, or_false] at hk
   rcases hk with rfl | rfl <;> assumption
theorem GP.all1 (i : Nat) (hr : rdyB ops done [i] = true) (h1 : GO P ops Q S done i n M w) : GP P ops Q S done n M w :=
 GP.alls _ hr fun k hk => by
   simp only [List.mem_cons, List.not_mem_nil, or_false] at hk
   subst hk
   assumption
theorem GO.of {o : Oper} (ho : ops[i]? = some o) (hg : gdM ops M o = some true)
   (h : ∀ F : Array Value, F.size = n → Fits F M → Region.noSelect ops = true → (∀ c (a : Act) d v w, Q (.panic c) (a.put d v) w → Q (.panic c) a w) → ∀ fuel,
     Oper.wp P o ⟨F, []⟩ w (fun a' w' => S w' ∧ wpL P ops Q S (fuel + (ops.size - (done ++ [i]).length)) (lsD ops.size (done ++ [i])) a' w') Q) : GO P ops Q S done i n M w := by
 intro F hF hM hsel hQ fuel
 unfold wpOp
 simp only [ho]
 rw [gdM_fits hM hg, if_pos rfl]
 exact .inl (h F hF hM hsel hQ fuel)
theorem GO.made {s : Sem Value} {v : Value} (hr : s.run P w = .ok v w') (ts : List Nat) (M' : FM) (hs : semAt ops M i = some (vN s)) (hp : (putM n M (dstAt ops i) v).bind (pick ts) = some M')
   (hS : S w') (h : GP P ops Q S (done ++ [i]) n M' w') : GO P ops Q S done i n M w := by
 obtain ⟨o, ho, hg, hk, he, hd⟩ := semAt_spec hs
 obtain ⟨M1, h1, h2⟩ := putM_bind hp
 rw [hd] at h1
 refine GO.of ho hg fun F hF hM hsel hQ fuel => ?_
 unfold Oper.wp
 rw [known_exec hM hk, he]
 have : (vN s).run P w = .ok (.value v) w' := by simp [vN, hr]
 rw [this]
 have hp' := hM.put (d := o.dst) (v := v) (M' := M1) (by rw [hF]; exact h1)
 show S w' ∧ _
 rw [hp'.2.2]
 exact ⟨hS, h _ (by rw [hp'.2.1, hF]) (hp'.1.pick h2) hsel hQ fuel⟩
theorem GP.perm {d : List Nat} (d' : List Nat) (hl : lsD ops.size d = lsD ops.size d') (hn : d.length = d'.length) (h : GP P ops Q S d' n M w) : GP P ops Q S d n M w := by
 intro F hF hM hsel hQ fuel
 have := h F hF hM hsel hQ fuel
 rwa [← hl, ← hn] at this
theorem Hp.reorder {w0 : World} {S0 : List Nat} {L L' : List Ent} (H : Hp w0 S0 L w) (h : List.Perm L L') : Hp w0 S0 L' w :=
 ⟨H.os, H.tape, H.output, H.size, H.keep, fun e he => H.ents e (h.mem_iff.2 he), fun k hk => H.old k ((h.flatMap_right _).mem_iff.2 hk), ((h.flatMap_right _).nodup_iff).1 H.nd⟩
theorem GP.named (h : ∀ X : List Nat → FM → World → Prop, (∀ d M w, X d M w = GP P ops Q S d n M w) → X done M w) : GP P ops Q S done n M w := h _ fun _ _ _ => rfl
end
end Go.Proofs.Ythcdelpdgkoioaa
namespace Go.Proofs.Ythcdelpdgkoioaa
open Go.RowKit
section
variable {P : Program} {n : Nat} {M : FM} {w : World}
theorem G.seqJ {a b : Code} {Q : Exit → Act → World → Prop} {X : Type} (Mx : X → FM) (J : X → World → Prop)
   (h : (∀ x w', J x w' → G P b Q n (Mx x) w') → ∀ K : Act → World → Prop, (∀ a w, b.wp P Q a w → K a w) → G P a (Exit.then K Q) n M w)
   (hb : ∀ x w', J x w' → G P b Q n (Mx x) w') : G P (.seq a b) Q n M w := G.seqK fun K hK => h hb K hK
end
end Go.Proofs.Ythcdelpdgkoioaa
namespace Go.Proofs.Ythcdelpdgkoioaa
open Go.RowKit
abbrev vi (n : Nat) : Value := .int .i64 (n : Int)
abbrev li (x : Int) : Value := .int .i64 x
abbrev lb (x : Int) : Value := .int .u8 x
def kM (M : FM) : List Nat := M.map Prod.fst
section
variable {P : Program} {ops : Array Oper} {Q : Exit → Act → World → Prop} {i n : Nat} {M : FM} {w w' : World}
theorem GL.r (j k : Nat) (M' : FM) (h : GL P ops Q j n M' w) (hb : (batch P ops n k i M).bind (pick (kM M')) = some M' := by kernel_rfl) (hj : i + k = j := by exact rfl) : GL P ops Q i n M w := GL.run k (kM M') M' hb hj h
theorem GL.s (j : Nat) {s : Sem Value} {v : Value} (hr : s.run P w = .ok v w') (M' : FM) (h : GL P ops Q j n M' w') (hs : semAt ops M i = some (vN s) := by kernel_rfl) (hp : (putM n M (dstAt ops i) v).bind (pick (kM M')) = some M' := by kernel_rfl) (hj : i + 1 = j := by exact rfl) : GL P ops Q i n M w := GL.sem hr (kM M') M' hs hp hj h
theorem GL.u (j : Nat) {s : Sem Unit} (hr : s.run P w = .ok () w') (M' : FM) (h : GL P ops Q j n M' w') (hs : semAt ops M i = some (uN s) := by kernel_rfl) (hd : dstAt ops i = none := by exact rfl) (hp : pick (kM M') M = some M' := by kernel_rfl) (hj : i + 1 = j := by exact rfl) : GL P ops Q i n M w := GL.semU hr (kM M') M' hs hd hp hj h
theorem GL.q {Q' : Exit → Act → World → Prop} {K : Act → World → Prop} {b : Code} (hK : ∀ a w, b.wp P Q' a w → K a w) (h : G P b Q' n M w) (hi : Nat.ble ops.size i = true := by first | exact rfl | kernel_rfl) (hq : ∀ a w, K a w → Q .normal a w := by exact fun _ _ h => h) : GL P ops Q i n M w := GL.k hi hK hq h
theorem G.sr {Q : Exit → Act → World → Prop} {id : Nat} {b : Code} (h : ∀ K : Act → World → Prop, (∀ a w, b.wp P Q a w → K a w) → GL P ops (Exit.then K Q) 0 n M w) : G P (.seq (.region id ops false) b) Q n M w := G.seqK fun K hK => G.region (h K hK)
end
section
variable {P : Program} {ops : Array Oper} {w : World} {Qa : Act → Prop} {k i n : Nat} {M : FM}
theorem GS.r (j m : Nat) (M' : FM) (h : GS P ops w Qa k j n M') (hb : (batch P ops n m i M).bind (pick (kM M')) = some M' := by kernel_rfl) (hj : i + m = j := by exact rfl) (hk : Nat.ble j k = true := by exact rfl) : GS P ops w Qa k i n M := GS.run m (kM M') M' hb hj hk h
theorem GS.s (j : Nat) {s : Sem Value} {v : Value} (hr : s.run P w = .ok v w) (M' : FM) (h : GS P ops w Qa k j n M') (hs : semAt ops M i = some (vN s) := by kernel_rfl) (hp : (putM n M (dstAt ops i) v).bind (pick (kM M')) = some M' := by kernel_rfl) (hj : i + 1 = j := by exact rfl) (hk : Nat.ble j k = true := by exact rfl) : GS P ops w Qa k i n M := GS.sem hr (kM M') M' hs hp hj hk h
end
section
variable {P : Program} {ops : Array Oper} {C : World → Prop} {Qa : Act → Prop} {i n : Nat} {M : FM}
theorem GQ.r (j k : Nat) (M' : FM) (h : GQ P ops C Qa j n M') (hb : (batch P ops n k i M).bind (pick (kM M')) = some M' := by kernel_rfl) (hj : i + k = j := by exact rfl) : GQ P ops C Qa i n M := GQ.run k (kM M') M' hb hj h
theorem GQ.s (j : Nat) {s : Sem Value} {v : Value} (hr : ∀ w, C w → s.run P w = .ok v w) (M' : FM) (h : GQ P ops C Qa j n M') (hs : semAt ops M i = some (vN s) := by kernel_rfl) (hp : (putM n M (dstAt ops i) v).bind (pick (kM M')) = some M' := by kernel_rfl) (hj : i + 1 = j := by exact rfl) : GQ P ops C Qa i n M := GQ.sem hr (kM M') M' hs hp hj h
end
section
variable {P : Program} {ops : Array Oper} {Q : Exit → Act → World → Prop} {S : World → Prop} {n : Nat} {M : FM} {w : World} {done : List Nat}
theorem GP.r (r : List Nat) (M' : FM) (done' : List Nat) (hS : S w) (h : GP P ops Q S done' n M' w) (hb : (batchP P ops n done r M).bind (pick (kM M')) = some M' := by kernel_rfl) (hj : done ++ r = done' := by exact rfl) : GP P ops Q S done n M w := GP.run r (kM M') M' done' hb hj hS h
theorem GP.s (i : Nat) {s : Sem Value} {v : Value} (hr : ∀ w, S w → s.run P w = .ok v w) (M' : FM) (hS : S w) (h : GP P ops Q S (done ++ [i]) n M' w) (hs : semAt ops M i = some (vN s) := by kernel_rfl) (hp : (putM n M (dstAt ops i) v).bind (pick (kM M')) = some M' := by kernel_rfl) (hm : mayB ops done i = true := by kernel_rfl) : GP P ops Q S done n M w := GP.sem i hr (kM M') M' hs hp hm hS h
end
end Go.Proofs.Ythcdelpdgkoioaa
namespace Go.Proofs.Ythcdelpdgkoioaa
open Go.RowKit Go.Conc
section
variable {P : Program} {ops : Array Oper} {Q : Exit → Act → World → Prop} {i n : Nat} {M M' : FM} {w w' : World} {a : Act}
def wpF (P : Program) (c : Code) (Q : Exit → Act → World → Prop) (a : Act) (w : World) : Prop :=
 ∀ (b : Frame) (k : List Item) (cs : List Frame), b.kind ≠ .early → ∃ e a' w', Q e a' w' ∧ Arrives P (lone (b.at a (.code c :: k)) cs w) b k cs e a' w'
theorem wpF_of {c : Code} (h : c.wp P Q a w) : wpF P c Q a w := fun b k cs _ => h b k cs
theorem wpF_mono {c : Code} {Q' : Exit → Act → World → Prop} (h : wpF P c Q a w) (hq : ∀ e a w, Q e a w → Q' e a w) : wpF P c Q' a w := fun b k cs hb => by
 obtain ⟨e, a', w', q, r⟩ := h b k cs hb
 exact ⟨e, a', w', hq _ _ _ q, r⟩
theorem wpF_seq {x y : Code} (h : wpF P x (Exit.then (wpF P y Q) Q) a w) : wpF P (.seq x y) Q a w := by
 intro b k cs hb
 obtain ⟨e, a₁, w₁, hq, harr⟩ := h b (.code y :: k) cs hb
 cases e with
 | normal =>
   obtain ⟨e₂, a₂, w₂, hq₂, harr₂⟩ := hq b k cs hb
   exact ⟨e₂, a₂, w₂, hq₂, .of_steps (.head step_seq harr) harr₂⟩
 | exit id => exact ⟨_, a₁, w₁, hq, .of_steps (.one step_seq) (.pass (x := .code y) rfl (fun _ _ => .inl (by simp)) harr)⟩
 | goto l => exact ⟨_, a₁, w₁, hq, .of_steps (.one step_seq) (.pass (x := .code y) rfl (fun _ _ => .inl (by simp)) harr)⟩
 | ret => exact ⟨_, a₁, w₁, hq, .of_steps (.one step_seq) (.pass (x := .code y) rfl (fun _ _ => .inl (by simp)) harr)⟩
 | panic ch => exact ⟨_, a₁, w₁, hq, .of_steps (.one step_seq) (.pass (x := .code y) rfl (fun _ _ => .inl (by simp)) harr)⟩
 | outgrown => exact ⟨_, a₁, w₁, hq, .of_steps (.one step_seq) (.pass (x := .code y) rfl (fun _ _ => .inl (by simp)) harr)⟩
def GN (P : Program) (c : Code) (Q : Exit → Act → World → Prop) (n : Nat) (M : FM) (w : World) : Prop :=
 ∀ F : Array Value, F.size = n → Fits F M → wpF P c Q ⟨F, []⟩ w
theorem GN.seqK {x y : Code} (h : ∀ K : Act → World → Prop, (∀ a w, wpF P y Q a w → K a w) → G P x (Exit.then K Q) n M w) : GN P (.seq x y) Q n M w := fun F hF hM =>
 wpF_seq (wpF_of (h _ (fun _ _ h => h) F hF hM))
theorem GN.seqS {x y : Code} (h : ∀ K : Act → World → Prop, (∀ a w, y.wp P Q a w → K a w) → GN P x (Exit.then K Q) n M w) : GN P (.seq x y) Q n M w := fun F hF hM =>
 wpF_seq (wpF_mono (h _ (fun _ _ h => wpF_of h) F hF hM) fun e a w hq => by
   cases e <;> exact hq)
theorem GL.kN {Q' : Exit → Act → World → Prop} {K : Act → World → Prop} {b : Code} (hi : Nat.ble ops.size i = true) (hK : ∀ a w, wpF P b Q' a w → K a w) (hq : ∀ a w, K a w → Q .normal a w)
   (h : GN P b Q' n M w) : GL P ops Q i n M w := GL.done hi fun F hF hM => hq _ _ (hK _ _ (h F hF hM))
theorem G.skipKN {Q' : Exit → Act → World → Prop} {K : Act → World → Prop} {b : Code} (hK : ∀ a w, wpF P b Q' a w → K a w) (hq : ∀ a w, K a w → Q .normal a w)
   (h : GN P b Q' n M w) : G P .skip Q n M w := fun F hF hM => wp_skip (hq _ _ (hK _ _ (h F hF hM)))
theorem G.exitKN {Q' : Exit → Act → World → Prop} {K : Act → World → Prop} {b : Code} {id : Nat} (hK : ∀ a w, wpF P b Q' a w → K a w) (hq : ∀ a w, K a w → Q (.exit id) a w)
   (h : GN P b Q' n M w) : G P (.exit id) Q n M w := fun F hF hM => wp_exit (hq _ _ (hK _ _ (h F hF hM)))
theorem calls_of_wpF {f : FuncId} {fn : Func} {c : Code} {args : Array Value} {R : Ending → World → Prop} (hf : P.funcs[f]? = some fn) (hb : fn.body = some c)
   (h : wpF P c (bodyPost P fn R) { tmps := args ++ Array.replicate (fn.ntmps - args.size) undef, defers := [] } w) : Calls P f args w R := by
 intro cs
 let b : Frame := { (default : Frame) with fn := f, kind := .normal }
 have henter : Frame.enter P f args .normal = b.at { tmps := args ++ Array.replicate (fn.ntmps - args.size) undef, defers := [] } [.code c] := by
   simp [Frame.enter, Frame.at, hf, hb, b]
 obtain ⟨e, a', w', hq, harr⟩ := h b [] cs (by simp [b])
 rw [← henter] at harr
 cases e with
 | normal =>
   obtain ⟨hd, v, hr, hR⟩ := hq
   exact ⟨.returned v, w', _, hR, Steps.trans harr (.one step_end), rfl, rfl, hd, rfl, fn, hf, hr⟩
 | ret =>
   obtain ⟨hd, v, hr, hR⟩ := hq
   obtain ⟨todo, hs⟩ := harr
   exact ⟨.returned v, w', _, hR, hs, rfl, rfl, hd, rfl, fn, hf, hr⟩
 | panic chain =>
   obtain ⟨hd, hR⟩ := hq
   obtain ⟨todo, hs⟩ := harr
   exact ⟨.panicked chain, w', _, hR, hs, rfl, rfl, hd, fn, hf⟩
 | exit id => exact hq.elim
 | goto l => exact hq.elim
 | outgrown => exact ⟨.outgrown, w', b, hq, harr.resolve_left (by simp [b]), rfl, trivial⟩
theorem calls_GN {f : FuncId} {fn : Func} {c : Code} {args : List Value} {R : Ending → World → Prop} (hf : P.funcs[f]? = some fn) (hb : fn.body = some c) (hn : fn.ntmps = n) (hl : Nat.ble args.length n = true)
   (h : ∀ Q : Exit → Act → World → Prop, (∀ a w, bodyPost P fn R .ret a w → Q .ret a w) → (∀ a w, bodyPost P fn R .ret a w → Q .normal a w) → (∀ c (a : Act) d v w, Q (.panic c) (a.put d v) w → Q (.panic c) a w) → GN P c Q n (argsM 0 args) w) : Calls P f args.toArray w R := by
 refine calls_of_wpF hf hb ?_
 refine h (bodyPost P fn R) (fun _ _ h => h) (fun _ _ h => h) (fun c a d v w h => by cases d <;> exact h) _ ?_ ?_
 · have := Nat.le_of_ble_eq_true hl
   simp [hn]; omega
 · exact fits_args args _ args 0 (fun j => by left; simp)
theorem G.scope {c : Code} (h : G P c (Exit.noGoto Q) n M w) : G P (.scope c) Q n M w := fun F hF hM => wp_scope_straight (h F hF hM)
theorem G.labelK {l : Nat} {Q' : Exit → Act → World → Prop} {K : Act → World → Prop} {b : Code} (hK : ∀ a w, b.wp P Q' a w → K a w) (hq : ∀ a w, K a w → Q .normal a w) (h : G P b Q' n M w) : G P (.label l) Q n M w :=
 fun F hF hM => wp_label (hq _ _ (hK _ _ (h F hF hM)))
theorem wpList_at (k : Nat) {F : Array Value} (h : wpList P ops Q (ops.toList.drop k) ⟨F, []⟩ w) (hk : k ≤ ops.size) : wpOps P ops Q (List.range' k (ops.size - k)) ⟨F, []⟩ w := by
 have e := wpOps_eq_wpList (P := P) (Q := Q) (ops := ops) (ops.toList.drop k) k fun j => by rw [List.getElem?_drop, Array.getElem?_toList]
 rw [List.length_drop, Array.length_toList] at e
 rw [e]
 exact h
theorem GN.comm {id : Nat} {o : Oper} {cases_ : Array CommCase} {blocking : Bool} {v : Value} (ho : ops[0]? = some o) (hg : o.guard = none)
   (hr : ∀ F : Array Value, F.size = n → Fits F M → (execOp (⟨F, []⟩ : Act).eval o).run P w = .ok (.comm cases_ blocking .select) w)
   (hs : ∀ (fr : Frame) (cs : List Frame) (es : Array Event), stepG P true (Go.Conc.G fr cs) w = .comm (Go.Conc.G fr cs) cases_ blocking .select w es → step P (solo (Go.Conc.G fr cs) w) = .next (solo (Go.Conc.G (fr.finish v) cs) w'))
   (ts : List Nat) (M' : FM) (hp : (putM n M o.dst v).bind (pick ts) = some M') (h : GL P ops Q 1 n M' w') : GN P (.region id ops false) Q n M w := by
 intro F hF hM b k cs hb
 have hsz : 0 < ops.size := (Array.getElem?_eq_some_iff.1 ho).1
 have hrange : List.range ops.size = 0 :: List.range' 1 (ops.size - 1) := by
   rw [List.range_eq_range', show ops.size = (ops.size - 1) + 1 by omega]
   rfl
 have hw : Region.wanted o (yielded ops (⟨F, []⟩ : Act).tmps) = true := by simp [Region.wanted, hg]
 obtain ⟨M1, h1, h2⟩ := putM_bind hp
 have hput := hM.put (d := o.dst) (v := v) (M' := M1) (by rw [hF]; exact h1)
 have hnext := h _ (by rw [hput.2.1, hF]) (hput.1.pick h2)
 rw [← hput.2.2] at hnext
 have hnext' : wpOps P ops Q (List.range' 1 (ops.size - 1)) ((⟨F, []⟩ : Act).put o.dst v) w' := by
   rw [hput.2.2] at hnext ⊢
   exact wpList_at 1 hnext hsz
 obtain ⟨e, a', w₂, hq, harr⟩ := wp_ops _ _ _ hnext' b k cs
 have hcomm := stepG_comm (P := P) (main := true) (b := b) (k := k) (cs := cs) (ops := ops) (i := 0) (rest := List.range' 1 (ops.size - 1)) (o := o) (a := ⟨F, []⟩) (w := w) ho hw hb (hr F hF hM)
 have hstep := hs _ cs _ hcomm
 have hfin := Frame.finish_at b ⟨F, []⟩ ops 0 (List.range' 1 (ops.size - 1)) k v
 rw [show (ops[0]?).bind (·.dst) = o.dst by rw [ho]; rfl] at hfin
 rw [hfin] at hstep
 refine ⟨e, a', w₂, hq, .of_steps (.head step_region ?_) harr⟩
 rw [hrange]
 exact .one hstep
theorem exec_sel1 {F : Array Value} {o : Oper} {x : Operand} {sd : Option Operand} {T : TypeId} (hop : o.op = .select #[⟨x, sd, T⟩] false) {c : Nat} {z : Value} (hx : (⟨F, []⟩ : Act).eval x = .chan (some c)) (hz : (zeroValue T).run P w = .ok z w) :
   (execOp (⟨F, []⟩ : Act).eval o).run P w = .ok (.comm #[{ chan := .chan (some c), send := sd.map (⟨F, []⟩ : Act).eval, zero := z }] false .select) w := by
 simp [execOp, hop, hx, hz]
end
end Go.Proofs.Ythcdelpdgkoioaa
namespace Go.Proofs.Ythcdelpdgkoioaa
open Go.RowKit
abbrev MX : Nat := 4611686018427387904
def partQ (a u d : Nat) (m : Bool) : Nat := a * u / d + if m = true ∧ a * u % d ≠ 0 then 1 else 0
def partE (a u d : Nat) (m : Bool) : Nat := if MX < a then 1 else if d = 0 then 5 else if MX < partQ a u d m then 4 else 0
def partV (a u d : Nat) (m : Bool) : Nat := if partE a u d m = 0 then partQ a u d m else 0
theorem part_arg {a u d : Nat} {m : Bool} (h : MX < a) : partE a u d m = 1 ∧ partV a u d m = 0 := by
 have e : partE a u d m = 1 := by rw [partE, if_pos h]
 exact ⟨e, by rw [partV, e]; rfl⟩
theorem part_zero {a u d : Nat} {m : Bool} (h : ¬ MX < a) (hd : d = 0) : partE a u d m = 5 ∧ partV a u d m = 0 := by
 have e : partE a u d m = 5 := by rw [partE, if_neg h, if_pos hd]
 exact ⟨e, by rw [partV, e]; rfl⟩
theorem part_over {a u d : Nat} {m : Bool} (h : ¬ MX < a) (hd : d ≠ 0) (hq : MX < partQ a u d m) : partE a u d m = 4 ∧ partV a u d m = 0 := by
 have e : partE a u d m = 4 := by rw [partE, if_neg h, if_neg hd, if_pos hq]
 exact ⟨e, by rw [partV, e]; rfl⟩
theorem part_ok {a u d : Nat} {m : Bool} (h : ¬ MX < a) (hd : d ≠ 0) (hq : ¬ MX < partQ a u d m) : partE a u d m = 0 ∧ partV a u d m = partQ a u d m := by
 have e : partE a u d m = 0 := by rw [partE, if_neg h, if_neg hd, if_neg hq]
 exact ⟨e, by rw [partV, e]; rfl⟩
theorem partE_cases (a u d : Nat) (m : Bool) : (partE a u d m = 1 ∧ MX < a) ∨ (partE a u d m = 5 ∧ ¬ MX < a ∧ d = 0) ∨ (partE a u d m = 4 ∧ ¬ MX < a ∧ d ≠ 0 ∧ MX < partQ a u d m) ∨ (partE a u d m = 0 ∧ ¬ MX < a ∧ d ≠ 0 ∧ ¬ MX < partQ a u d m ∧ partV a u d m = partQ a u d m) := by
 by_cases h : MX < a
 · exact .inl ⟨(part_arg h).1, h⟩
 by_cases hd : d = 0
 · exact .inr (.inl ⟨(part_zero h hd).1, h, hd⟩)
 by_cases hq : MX < partQ a u d m
 · exact .inr (.inr (.inl ⟨(part_over h hd hq).1, h, hd, hq⟩))
 · exact .inr (.inr (.inr ⟨(part_ok h hd hq).1, h, hd, hq, (part_ok h hd hq).2⟩))
theorem partQ_down (a u d : Nat) : partQ a u d false = a * u / d := by simp [partQ]
theorem partQ_up (a u d : Nat) : partQ a u d true = a * u / d ∨ partQ a u d true = a * u / d + 1 := by
 unfold partQ
 split
 · exact .inr rfl
 · exact .inl rfl
theorem rounds (a b u d : Nat) :
   (partE a u d false = 0 → partE a u d true = 0 → partV a u d true = partV a u d false ∨ partV a u d true = partV a u d false + 1) ∧ (partE a u d true = 0 → partE a u d false = 0) ∧
   (partE a u d false = partE a u d true ∨ partE a u d true = 4) ∧ (partE a u d false = 0 → partE b u d false = 0 → a ≤ b → partV a u d false ≤ partV b u d false) := by
 have h1 := partE_cases a u d false
 have h2 := partE_cases a u d true
 have h3 := partE_cases b u d false
 have e1 := partQ_down a u d
 have e3 := partQ_down b u d
 have e2 := partQ_up a u d
 refine ⟨by omega, by omega, by omega, fun x y hab => ?_⟩
 have : a * u / d ≤ b * u / d := Nat.div_le_div_right (Nat.mul_le_mul_right _ hab)
 omega
end Go.Proofs.Ythcdelpdgkoioaa
namespace Go.Proofs.Ythcdelpdgkoioaa
open Go.RowKit
def val : List Nat → Nat
 | [] => 0
 | d :: ds => d + 65536 * val ds
end Go.Proofs.Ythcdelpdgkoioaa
namespace Go.Proofs.Ythcdelpdgkoioaa
open Go.RowKit
def putB : Nat → Nat → List UInt8
 | _, 0 => []
 | x, n + 1 => UInt8.ofNat x :: putB (x / 256) n
theorem putB_length : ∀ (n x : Nat), (putB x n).length = n
 | 0, _ => rfl
 | n + 1, x => by rw [putB, List.length_cons, putB_length n]
theorem u8_ofNat (x : Nat) : (UInt8.ofNat x).toNat = x % 256 := by simp
section
variable {P : Program} {w0 w w' : World} {S : List Nat} {A B A' : List Ent}
theorem Hp.startL (H : Hp w0 S (A ++ B) w) : Hp w (ids A) A w :=
 ⟨rfl, rfl, rfl, Nat.le_refl _, fun _ _ _ => rfl, fun e he => H.ents e (List.mem_append_left _ he), fun _ hk => .inr hk, by have := H.nd; rw [ids_append] at this; exact (List.nodup_append.1 this).1⟩
theorem Hp.callL (H : Hp w0 S (A ++ B) w) (H' : Hp w (ids A) A' w') : Hp w0 S (A' ++ B) w' := by
 have hnd := H.nd
 rw [ids_append] at hnd
 obtain ⟨n1, n2, n3⟩ := List.nodup_append.1 hnd
 refine ⟨H'.os.trans H.os, H'.tape.trans H.tape, H'.output.trans H.output, Nat.le_trans H.size H'.size, ?_, ?_, ?_, ?_⟩
 · intro k hk hS
   refine (H'.keep k (Nat.lt_of_lt_of_le hk H.size) (fun hin => ?_)).trans (H.keep k hk hS)
   rcases H.old k (by rw [ids_append]; exact List.mem_append_left _ hin) with h | h
   · omega
   · exact hS h
 · intro e he
   rcases List.mem_append.1 he with he | he
   · exact H'.ents e he
   · have hh := H.ents e (List.mem_append_right _ he)
     refine Ent.same hh (fun k hk => H'.keep k (Ent.lt hh k hk) (fun hin => ?_))
     exact n3 k hin k (ids_mem he hk) rfl
 · intro k hk
   rw [ids_append] at hk
   rcases List.mem_append.1 hk with hk | hk
   · rcases H'.old k hk with h | h
     · exact .inl (Nat.le_trans H.size h)
     · exact H.old k (by rw [ids_append]; exact List.mem_append_left _ h)
   · exact H.old k (by rw [ids_append]; exact List.mem_append_right _ hk)
 · rw [ids_append]
   refine List.nodup_append.2 ⟨H'.nd, n2, fun a ha b hb hab => ?_⟩
   subst hab
   rcases H'.old a ha with h | h
   · have := H.lt a (by rw [ids_append]; exact List.mem_append_right _ hb)
     omega
   · exact n3 a h a hb rfl
end
def Cut (R : Option Addr) (whole : List UInt8) (A' : Option Addr) (rest : List UInt8) : Prop := ∀ W, RdS W R (by8 whole) → RdS W A' (by8 rest)
theorem Cut.refl (R : Option Addr) (whole : List UInt8) : Cut R whole R whole := fun _ h => h
theorem Cut.drop {R A' : Option Addr} {whole rest : List UInt8} {cap : Nat} (h : Cut R whole A' rest) (n : Nat) (hc : rest.length ≤ cap) : Cut R whole (if cap = n then A' else A'.map (·.add n)) (rest.drop n) := fun W hW => RdS.drop8 (h W hW) n hc rfl
end Go.Proofs.Ythcdelpdgkoioaa
namespace Go.Proofs.Ythcdelpdgkoioaa
open Go.RowKit Go.ChangeShapes Go.WideShapes Go.ChangeAt
section
variable {P : Program} {w : World}
theorem run_idxRdN {t sz len cap : Nat} {A : Option Addr} {k : IntKind} {i : Int} {j : Nat} {xs : List Value} (ht : slcOf P t = some sz) (hi : i = (j : Int)) (hr : RdS w A xs) (hx : xs.length = len * sz) (hsz : 0 < sz) (hj : j < len) :
   (Instr.indexAt t (.slice A len cap) (.int k i)).run P w = .ok (.pointer (A.map (·.add (j * sz)))) w := by
 have hlt : j * sz < xs.length := by rw [hx]; exact Nat.mul_lt_mul_of_pos_right hj hsz
 obtain ⟨a, rfl, _⟩ := hr.cell (j := j * sz) (List.getElem?_eq_getElem hlt)
 rw [run_idxSl ht hi hj]
 simp
theorem run_ldRdA {ty m o : Nat} {A : Option Addr} {xs sub : List Value} (hs : aggSz P ty = some m) (hr : RdS w A xs) (hsub : (xs.drop o).take m = sub) (hl : sub.length = m) (hm : 0 < m) :
   (Instr.loadAt ty (.pointer (A.map (·.add o)))).run P w = .ok (.agg sub.toArray) w := by
 have hget : ∀ j, j < m → xs[o + j]? = sub[j]? := by
   intro j hj
   rw [← hsub, List.getElem?_take_of_lt hj, List.getElem?_drop]
 have h0 : xs[o]? = some sub[0] := by
   have := hget 0 hm
   rw [Nat.add_zero] at this
   rw [this, List.getElem?_eq_getElem (by omega)]
 obtain ⟨a, rfl, _⟩ := hr.cell h0
 have h1 : (loadCells (a.add o) sub.length).run P w = .ok sub.toArray w := by
   refine run_loadCells_list (P := P) w (a.add o) sub (fun j v hv => ?_)
   have hj : j < m := by
     rw [← hl]
     exact (List.getElem?_eq_some_iff.1 hv).1
   obtain ⟨a', ha', hc⟩ := hr.cell ((hget j hj).trans hv)
   injection ha' with ha'
   subst ha'
   rw [add_add]
   exact hc
 rw [hl] at h1
 simp [Instr.loadAt, Instr.sureAddr, loadVar, run_isAgg_agg hs, run_sizeOf_agg hs, h1]
end
section
variable {H : Type} {enc : TypeId × Value → H} {P : Program} {w : World} {sp : Nat → Bool} {held : Bool}
theorem open_structs {t e : TypeId} {fuel : Nat} {cs : List Value} {x : DataW H × List MemPlace} (sz : Nat) (ht : P.underlying t = some (.slice e)) (hc : P.cellsOf e = sz) (hsz : 0 < sz) (h : DataW.trod enc P w 0 sp held fuel t cs = some x) :
   ∃ (A : Option Addr) (n c : Nat) (xs : List Value), cs = [.slice A n c] ∧ RdS w A xs ∧ xs.length = n * sz ∧ n ≤ c ∧ c ≤ maxLen ∧ ∀ i, i < n → ((xs.drop (i * sz)).take sz).length = sz ∧ ∃ m y, DataW.trod enc P w 0 sp held m e ((xs.drop (i * sz)).take sz) = some y := by
 rcases Go.Deep.open_slice ht h with ⟨rfl, _⟩ | ⟨a, len, cap, m, nf, D, Pl, rfl, _, hl, hm, hmm, _, hx⟩
 · exact ⟨none, 0, 0, [], rfl, .inl rfl, by simp, Nat.le_refl _, Nat.zero_le _, fun i hi => by omega⟩
 · rw [hc] at hx
   have hle : len ≤ m := by rw [hmm]; split <;> omega
   have hC : ∀ i, ∃ cs' : List Value, i < len → (w.cells? 0 (a.add (i * sz)) sz = some cs' ∧ DataW.trod enc P w 0 sp held nf e cs' = some (D i, Pl i)) := by
     intro i
     by_cases hi : i < len
     · obtain ⟨cs', h1, h2⟩ := hx i (by omega)
       exact ⟨cs', fun _ => ⟨h1, h2⟩⟩
     · exact ⟨[], fun hh => absurd hh hi⟩
   let E : Nat → List Value := fun i => Classical.choose (hC i)
   have hE : ∀ i, i < len → w.cells? 0 (a.add (i * sz)) sz = some (E i) ∧ DataW.trod enc P w 0 sp held nf e (E i) = some (D i, Pl i) := fun i => Classical.choose_spec (hC i)
   have hEl : ∀ i, i < len → (E i).length = sz ∧ ∀ r v, (E i)[r]? = some v → w.cell? ((a.add (i * sz)).add r) = some v := by
     intro i hi
     obtain ⟨_, h1, h2⟩ := World.cells?_some (hE i hi).1
     refine ⟨h1, fun r v hv => ?_⟩
     have hr : r < sz := by rw [← h1]; exact (List.getElem?_eq_some_iff.1 hv).1
     have := h2 r hr
     rw [this, ← hv]
   refine ⟨some a, len, cap, (List.range (len * sz)).map fun j => ((E (j / sz))[j % sz]?).getD undef, rfl, ?_, by simp, hl, hm, fun i hi => ?_⟩
   · by_cases h0 : len = 0
     · exact .inl (by simp [h0])
     · have hcell : ∀ j v, ((List.range (len * sz)).map fun j => ((E (j / sz))[j % sz]?).getD undef)[j]? = some v → w.cell? (a.add j) = some v := by
         intro j v hv
         have hj : j < len * sz := by
           have := (List.getElem?_eq_some_iff.1 hv).1
           simpa using this
         simp [hj] at hv
         have hq : j / sz < len := Nat.div_lt_of_lt_mul (by rw [Nat.mul_comm]; exact hj)
         have hr : j % sz < sz := Nat.mod_lt _ hsz
         obtain ⟨h1, h2⟩ := hEl _ hq
         have h3 : (E (j / sz))[j % sz]? = some v := by rw [List.getElem?_eq_getElem (by omega)] at hv ⊢; simpa using hv
         have h4 := h2 _ _ h3
         rwa [add_add, Nat.div_add_mod'] at h4
       refine .inr ⟨a, rfl, ?_, hcell⟩
       have hpos : 0 < len * sz := Nat.mul_pos (by omega) hsz
       have h1 := hcell 0 _ (List.getElem?_eq_getElem (by simpa using hpos))
       have h2 := block_lt_of_cell h1
       rwa [add_block] at h2
   · have hEi := hEl i hi
     have e1 : (((List.range (len * sz)).map fun j => ((E (j / sz))[j % sz]?).getD undef).drop (i * sz)).take sz = E i := by
       refine List.ext_getElem? (fun r => ?_)
       by_cases hr : r < sz
       · have hlt : i * sz + r < len * sz := by
           have := Nat.mul_le_mul_right sz (show i + 1 ≤ len by omega)
           rw [Nat.add_mul, Nat.one_mul] at this
           omega
         rw [List.getElem?_take_of_lt hr, List.getElem?_drop]
         have hd : (i * sz + r) / sz = i := by rw [Nat.mul_comm, Nat.mul_add_div hsz, Nat.div_eq_of_lt hr, Nat.add_zero]
         have hmo : (i * sz + r) % sz = r := by rw [Nat.mul_comm, Nat.mul_add_mod, Nat.mod_eq_of_lt hr]
         simp [hlt, hd, hmo]
         rw [List.getElem?_eq_getElem (by omega)]
         rfl
       · rw [List.getElem?_eq_none (by simp; omega), List.getElem?_eq_none (by omega)]
     rw [e1]
     exact ⟨hEi.1, nf, _, (hE i hi).2⟩
end
end Go.Proofs.Ythcdelpdgkoioaa
namespace Go.Proofs.Ythcdelpdgkoioaa
open Go.RowKit
def cnt (x : Nat) : List UInt8 := if x < 253 then putB x 1 else if x < 65536 then putB 253 1 ++ putB x 2 else if x < 4294967296 then putB 254 1 ++ putB x 4 else putB 255 1 ++ putB x 8
section
variable {P : Program} {w0 w w' : World} {S : List Nat} {L A' B' : List Ent}
def RdO (w : World) (S : List Nat) (A : Option Addr) (xs : List Value) : Prop :=
 ∀ W : World, w.heap.size ≤ W.heap.size → (∀ k, k < w.heap.size → k ∉ S → W.heap[k]? = w.heap[k]?) → RdS W A xs
theorem RdO.hp {A : Option Addr} {xs : List Value} (h : RdO w S A xs) (H : Hp w S L w') : RdS w' A xs := h w' H.size H.keep
theorem RdO.of {A : Option Addr} {xs : List Value} (h : RdS w A xs) : RdO w [] A xs := by
 intro W hs hk
 rcases h with h | ⟨a, hA, ha, hc⟩
 · exact .inl h
 · refine .inr ⟨a, hA, Nat.lt_of_lt_of_le ha hs, fun j v hv => ?_⟩
   rw [World.cell?_of_block (w := w) (hk (a.add j).block (by rw [add_block]; exact ha) (by simp))]
   exact hc j v hv
theorem RdO.row (H : Hp w0 S (A' ++ B') w) (i : Nat) {R : Option Addr} {n c e : Nat} {xs : List Value} (hL : B'[i]? = some (.row R n c e 1 xs)) : RdO w (ids A') R xs := by
 have hr : RdS w R xs := RdS.row (H.ents _ (List.mem_append_right _ (List.mem_of_getElem? hL)))
 have hnd := H.nd
 rw [ids_append] at hnd
 obtain ⟨_, _, n3⟩ := List.nodup_append.1 hnd
 intro W hs hk
 rcases hr with h | ⟨a, hA, ha, hc⟩
 · exact .inl h
 · refine .inr ⟨a, hA, Nat.lt_of_lt_of_le ha hs, fun j v hv => ?_⟩
   have hb : (a.add j).block = a.block := add_block a j
   rw [World.cell?_of_block (w := w) (hk (a.add j).block (by rw [hb]; exact ha) (fun hin => ?_))]
   · exact hc j v hv
   · rw [hb] at hin
     exact n3 _ hin _ (ids_mem (List.mem_of_getElem? hL) (by subst hA; simp [Ent.ids])) rfl
end
end Go.Proofs.Ythcdelpdgkoioaa
namespace Go.Proofs.Ythcdelpdgkoioaa
open Go.RowKit
def FR (r : Option Nat) : Fence := { Fence.wide with round := r }
def noDef (ops : Array Oper) : Bool := ops.toList.all fun o => !isDefer o.op
def RL (P : Program) (ops : Array Oper) (r : Option Nat) (ds : List Deferred) (Q : Exit → Act → World → Prop) (i n : Nat) (M : FM) (w : World) : Prop :=
 noDef ops = true → ∀ F : Array Value, F.size = n → Fits F M → wpListIn (FR r) 0 P ops Q (ops.toList.drop i) ⟨F, ds⟩ w
def RG (P : Program) (c : Code) (r : Option Nat) (ds : List Deferred) (Q : Exit → Act → World → Prop) (n : Nat) (M : FM) (w : World) : Prop :=
 ∀ F : Array Value, F.size = n → Fits F M → c.wpIn (FR r) 0 P Q ⟨F, ds⟩ w
theorem put_ds {F : Array Value} {ds : List Deferred} {d : Option Nat} {v : Value} : (⟨F, ds⟩ : Act).put d v = ⟨((⟨F, []⟩ : Act).put d v).tmps, ds⟩ := by cases d <;> rfl
theorem callsFR {P : Program} {f : FuncId} {args : Array Value} {w : World} {R : Ending → World → Prop} {r : Option Nat} {n : Nat} (h : Calls P f args w R) : CallsIn (FR r) n P f args w R := (callsIn_wide (n := n)).2 h
section
variable {P : Program} {ops : Array Oper} {r : Option Nat} {ds : List Deferred} {Q : Exit → Act → World → Prop} {i n : Nat} {M M' : FM} {w w' : World}
theorem noDef_at {o : Oper} (hd : noDef ops = true) (ho : ops[i]? = some o) : ∀ c, o.op ≠ .defer c := by
 intro c hc
 have h1 : o ∈ ops.toList := List.mem_of_getElem? (i := i) (by simpa using ho)
 have h2 := List.all_eq_true.1 hd o h1
 rw [hc] at h2
 simp [isDefer] at h2
theorem RL.step {o : Oper} {v : Value} (ho : ops[i]? = some o) (hg : gdM ops M o = some true)
   (hr : ∀ F : Array Value, F.size = n → Fits F M → (execOp (⟨F, []⟩ : Act).eval o).run P w = .ok (.value v) w')
   (hp : putM n M o.dst v = some M') (h : RL P ops r ds Q (i + 1) n M' w') : RL P ops r ds Q i n M w := by
 intro hnd F hF hM
 rw [drop_at ho]
 refine wpListIn_step fun K hK => ?_
 show if Region.wanted o (yielded ops F) then _ else _
 rw [gdM_fits hM hg, if_pos rfl]
 refine ⟨fun _ _ => trivial, ?_⟩
 rw [Oper.semAt_eq _ _ _ (noDef_at hnd ho)]
 have hr' : (execOp (⟨F, ds⟩ : Act).eval o).run P w = .ok (.value v) w' := hr F hF hM
 rw [hr']
 show K _ _
 have hp' := hM.put (d := o.dst) (v := v) (M' := M') (by rw [hF]; exact hp)
 rw [put_ds]
 exact hK _ _ (h hnd _ (by rw [hp'.2.1, hF]) hp'.1)
theorem RL.skip_ {o : Oper} (ho : ops[i]? = some o) (hg : gdM ops M o = some false) (hp : putM n M o.dst undef = some M') (h : RL P ops r ds Q (i + 1) n M' w) : RL P ops r ds Q i n M w := by
 intro hnd F hF hM
 rw [drop_at ho]
 refine wpListIn_step fun K hK => ?_
 show if Region.wanted o (yielded ops F) then _ else _
 rw [gdM_fits hM hg]
 simp only [Bool.false_eq_true, if_false]
 refine ⟨fun _ _ => trivial, ?_⟩
 have hp' := hM.put (d := o.dst) (v := undef) (M' := M') (by rw [hF]; exact hp)
 rw [put_ds]
 exact hK _ _ (h hnd _ (by rw [hp'.2.1, hF]) hp'.1)
theorem RL.batch_ : ∀ {k i : Nat} {M M' : FM}, batch P ops n k i M = some M' → RL P ops r ds Q (i + k) n M' w → RL P ops r ds Q i n M w
 | 0, i, M, M', hb, h => by
   simp [batch] at hb
   subst hb
   exact h
 | k + 1, i, M, M', hb, h => by
   have h' : RL P ops r ds Q (i + 1 + k) n M' w := by rwa [show i + 1 + k = i + (k + 1) from by omega]
   unfold batch at hb
   split at hb
   · cases hb
   · rename_i o ho
     split at hb
     · cases hb
     · rename_i hg
       split at hb
       · rename_i M1 hp
         exact RL.skip_ ho hg hp (RL.batch_ hb h')
       · cases hb
     · rename_i hg
       split at hb
       · rename_i hk
         split at hb
         · rename_i v hv
           split at hb
           · rename_i M1 hp
             refine RL.step ho hg (fun F hF hM => ?_) hp (RL.batch_ hb h')
             rw [known_exec hM hk]
             unfold opPev at hv
             split at hv
             · rename_i u hu
               injection hv with hv
               subst hv
               exact pev_run hu w
             · cases hv
           · cases hb
         · cases hb
       · cases hb
theorem RL.fit {ts : List Nat} (hp : pick ts M = some M') (h : RL P ops r ds Q i n M' w) : RL P ops r ds Q i n M w := fun hnd F hF hM => h hnd F hF (hM.pick hp)
theorem RL.run (k : Nat) (ts : List Nat) (M' : FM) {j : Nat} (hb : (batch P ops n k i M).bind (pick ts) = some M') (hj : i + k = j) (h : RL P ops r ds Q j n M' w) : RL P ops r ds Q i n M w := by
 subst hj
 cases hm : batch P ops n k i M with
 | none => rw [hm] at hb; cases hb
 | some M1 =>
   rw [hm] at hb
   exact RL.batch_ hm (RL.fit hb h)
theorem RL.done (hi : Nat.ble ops.size i = true) (h : ∀ F : Array Value, F.size = n → Fits F M → Q .normal ⟨F, ds⟩ w) : RL P ops r ds Q i n M w := by
 intro _ F hF hM
 rw [List.drop_eq_nil_of_le (by simpa using Nat.le_of_ble_eq_true hi)]
 exact wpListIn_nil (h F hF hM)
theorem RL.yield {l : Nat} {args : Array Value} {R : Ending → World → Prop} (hy : YieldAt (FR none) 0 P l args w R) (hs : semAt ops M i = some (Instr.yield l args)) {j : Nat} (hj : i + 1 = j)
   (h : ∀ e w', R e w' → ∃ v, e = .returned v ∧ ∃ ts M', (putM n M (dstAt ops i) v).bind (pick ts) = some M' ∧ RL P ops r ds Q j n M' w') : RL P ops r ds Q i n M w := by
 subst hj
 obtain ⟨fn, tmps, assign, body, hrun, hR0⟩ := hy
 obtain ⟨o, ho, hg, hk, he, hd⟩ := semAt_spec hs
 intro hnd F hF hM
 rw [drop_at ho]
 refine wpListIn_step fun K hK => ?_
 show if Region.wanted o (yielded ops F) then _ else _
 rw [gdM_fits hM hg, if_pos rfl]
 refine ⟨fun _ _ => trivial, ?_⟩
 rw [Oper.semAt_eq _ _ _ (noDef_at hnd ho)]
 have hr' : (execOp (⟨F, ds⟩ : Act).eval o).run P w = .ok (.round l fn tmps assign body) w := by
   show (execOp (⟨F, []⟩ : Act).eval o).run P w = _
   rw [known_exec hM hk, he]
   exact hrun
 rw [hr']
 refine ⟨fun h => (by cases h), ?_⟩
 have hR1 : RoundIn (FR r) 0 P l fn tmps assign body w R := hR0
 refine hR1.mono fun e w' hR => ?_
 obtain ⟨v, rfl, ts, M', hp, hG⟩ := h e w' hR
 obtain ⟨M1, h1, h2⟩ := putM_bind hp
 rw [hd] at h1
 have hp' := hM.put (d := o.dst) (v := v) (M' := M1) (by rw [hF]; exact h1)
 show K _ _
 rw [put_ds]
 exact hK _ _ (hG hnd _ (by rw [hp'.2.1, hF]) (hp'.1.pick h2))
theorem RG.region {id : Nat} (hnd : noDef ops = true) (h : RL P ops r ds Q 0 n M w) : RG P (.region id ops false) r ds Q n M w := fun F hF hM =>
 wpIn_region_list (by simpa using h hnd F hF hM)
theorem RG.block {id : Nat} {c : Code} (h : RG P c r ds (Exit.inBlock id Q) n M w) : RG P (.block id c) r ds Q n M w := fun F hF hM => wpIn_block (h F hF hM)
theorem RG.cond {c : Operand} {x y : Code} {b : Bool} (hc : evM M c = some (.bool b)) (hx : b = true → RG P x r ds Q n M w) (hy : b = false → RG P y r ds Q n M w) : RG P (.cond c x y) r ds Q n M w := by
 intro F hF hM
 refine wpIn_cond (t := b) (evM_fits hM hc) ?_
 cases b
 · exact hy rfl F hF hM
 · exact hx rfl F hF hM
theorem RG.ret (h : ∀ F : Array Value, F.size = n → Fits F M → Q .ret ⟨F, ds⟩ w) : RG P .ret r ds Q n M w := fun F hF hM => wpIn_ret (h F hF hM)
theorem RL.k {Q' : Exit → Act → World → Prop} {K : Act → World → Prop} {b : Code} (hi : Nat.ble ops.size i = true) (hK : ∀ a w, b.wpIn (FR r) 0 P Q' a w → K a w) (hq : ∀ a w, K a w → Q .normal a w)
   (h : RG P b r ds Q' n M w) : RL P ops r ds Q i n M w := RL.done hi fun F hF hM => hq _ _ (hK _ _ (h F hF hM))
def AgainR (n : Nat) (ds : List Deferred) {X : Type} (Mx : X → FM) (J : X → World → Prop) (μ : X → Nat) (x : X) : Act → World → Prop :=
 fun a w => ∃ x', μ x' < μ x ∧ J x' w ∧ ∃ F : Array Value, a = ⟨F, ds⟩ ∧ F.size = n ∧ Fits F (Mx x')
theorem RG.loop {X : Type} {c : Code} (Mx : X → FM) (J : X → World → Prop) (μ : X → Nat) (x0 : X) (ts : List Nat) (hM : pick ts M = some (Mx x0)) (hJ : J x0 w)
   (hstep : ∀ x w, J x w → RG P c r ds (Exit.then (AgainR n ds Mx J μ x) Q) n (Mx x) w) : RG P (.loop c) r ds Q n M w := by
 have key : ∀ m x w, μ x ≤ m → J x w → ∀ F : Array Value, F.size = n → Fits F (Mx x) → Code.roundsIn (FR r) 0 P c Q (m + 1) ⟨F, ds⟩ w := by
   intro m
   induction m with
   | zero =>
     intro x w hm hx F hF hFit
     rw [roundsIn_succ]
     refine wpIn_mono (hstep x w hx F hF hFit) ?_
     intro e a' w' hq
     cases e with
     | normal =>
       obtain ⟨x', hlt, _⟩ := hq
       omega
     | _ => exact hq
   | succ m ih =>
     intro x w hm hx F hF hFit
     rw [roundsIn_succ]
     refine wpIn_mono (hstep x w hx F hF hFit) ?_
     intro e a' w' hq
     cases e with
     | normal =>
       obtain ⟨x', hlt, hJ', F', rfl, hF', hfit'⟩ := hq
       exact ih x' w' (by omega) hJ' F' hF' hfit'
     | _ => exact hq
 intro F hF hFit
 exact wpIn_loop_rounds _ (key (μ x0) x0 w (Nat.le_refl _) hJ F hF (hFit.pick hM))
theorem RL.round {c : Code} {Q : Exit → Act → World → Prop} {k : Nat} (hi : Nat.ble ops.size i = true) (h : RG P c r ds (Exit.then (Code.roundsIn (FR r) 0 P c Q k) Q) n M w) : RL P ops r ds (Exit.then (Code.roundsIn (FR r) 0 P c Q (k + 1)) Q) i n M w :=
 RL.done hi fun F hF hM => h F hF hM
def MK (D : Nat) : Deferred := { target := .collected D, args := #[] }
def DF : Obj := .deferred (some [])
end
section
variable {P : Program} {w0 w : World} {S : List Nat} {L : List Ent}
theorem Hp.objAt (H : Hp w0 S L w) (i : Nat) {k : Nat} {o : Obj} (hL : L[i]? = some (.obj k o)) : w.heap[k]? = some o := H.ents _ (List.mem_of_getElem? hL)
theorem Hp.putObj (H : Hp w0 S L w) (i : Nat) {k : Nat} {o : Obj} (o' : Obj) (hL : L[i]? = some (.obj k o)) : Hp w0 S (L.set i (.obj k o')) (w.putObj k o') := by
 have h1 := H.objAt i hL
 have hlt := (Array.getElem?_eq_some_iff.1 h1).1
 exact H.turn i hL rfl (World.putObj_heap_same hlt) rfl rfl rfl (by simp) (fun j _ hj => World.putObj_heap_other (by simpa [Ent.ids] using hj))
theorem Hp.newObj (H : Hp w0 S L w) (o : Obj) : Hp w0 S (L ++ [.obj w.heap.size o]) (w.alloc o) := by
 refine H.callNew (L' := [.obj w.heap.size o]) ⟨rfl, rfl, rfl, by simp, fun k hk _ => heap_alloc_old w _ hk, ?_, ?_, by simp [ids, Ent.ids]⟩
 · intro e he
   simp at he
   subst he
   exact World.alloc_heap_new w o
 · intro k hk
   simp [ids, Ent.ids] at hk
   omega
theorem set_last2 {α : Type} (A : List α) (x y z : α) : (A ++ [x, y]).set (A.length + 1) z = A ++ [x, z] := by
 rw [List.set_append_right _ _ (by omega)]
 simp
theorem Hp.turnLast {A : List Ent} {e : Ent} {k : Nat} {o : Obj} (H : Hp w0 S (A ++ [e, .obj k o]) w) (o' : Obj) : Hp w0 S (A ++ [e, .obj k o']) (w.putObj k o') := by
 have h := H.putObj (A.length + 1) (k := k) (o := o) o' (by simp)
 rwa [set_last2] at h
theorem Hp.last {A : List Ent} {e : Ent} {k : Nat} {o : Obj} (H : Hp w0 S (A ++ [e, .obj k o]) w) : w.heap[k]? = some o := H.objAt (A.length + 1) (by simp)
theorem Hp.dropLast {A : List Ent} {e : Ent} {k : Nat} {o : Obj} (H : Hp w0 S (A ++ [e, .obj k o]) w) : Hp w0 S (A ++ [e]) w := by
 refine H.sub ?_
 refine List.Sublist.append_left ?_ A
 exact List.Sublist.cons_cons _ (List.nil_sublist _)
end
def Iter (P : Program) (gf : Nat) (lb : Array Value) (N : Nat) (enc : Nat → Array Value) (Rd : World → Prop) : Prop :=
 ∀ (l : Nat) (J : Nat → World → Prop) (Jx : World → Prop), (∀ k W, J k W → Rd W) → (∀ k W W', J k W → Below W.heap.size W W' → J k W') →
   (∀ k W, k < N → J k W → YieldAt (FR none) 0 P l (enc k) W fun e W' => (e = .returned (.bool true) ∧ J (k + 1) W') ∨ (e = .returned (.bool false) ∧ Jx W')) →
   ∀ W, J 0 W → Calls P gf (#[.func (.yield l) #[] #[]] ++ lb) W fun e W' => (∃ v, e = .returned v) ∧ (J N W' ∨ Jx W')
theorem getD_some {ls : List Nat} {k : Nat} (h : k < ls.length) : ls[k]? = some (ls.getD k 0) := by rw [List.getD_eq_getElem?_getD, List.getElem?_eq_getElem h]; rfl
def RoundQ (w0 : World) (S : List Nat) {Xt : Type} (inv : Nat → Xt → Prop) (Lx : Nat → Xt → List Ent) (invr : Xt → Prop) (Lr : Xt → List Ent) (k : Nat) (E : List Ent) : Exit → Act → World → Prop
 | .normal, _, W => ∃ x, inv (k + 1) x ∧ Hp w0 S (Lx (k + 1) x ++ E) W
 | .ret, _, W => ∃ x, invr x ∧ Hp w0 S (Lr x ++ E) W
 | _, _, _ => False
section
variable {P : Program} {n : Nat} {M : FM} {w w0 : World} {S : List Nat} {L : List Ent} {Q : Exit → Act → World → Prop}
def putL (n : Nat) : List (Nat × Value) → FM → Option FM
 | [], M => some M
 | (p, v) :: l, M => match putM n M (some p) v with
   | some M' => putL n l M'
   | none => none
theorem putL_fits : ∀ (l : List (Nat × Value)) {M M' : FM} {F : Array Value}, F.size = n → Fits F M → putL n l M = some M' →
   (l.foldl (fun t (q : Nat × Value) => t.setIfInBounds q.1 q.2) F).size = n ∧ Fits (l.foldl (fun t (q : Nat × Value) => t.setIfInBounds q.1 q.2) F) M'
 | [], M, M', F, hF, hM, h => by
   simp only [putL, Option.some.injEq] at h
   subst h
   exact ⟨hF, hM⟩
 | (p, v) :: l, M, M', F, hF, hM, h => by
   unfold putL at h
   split at h
   · rename_i M1 h1
     have hp := hM.put (d := some p) (v := v) (M' := M1) (by rw [hF]; exact h1)
     exact putL_fits l (by simpa [Act.put] using hp.2.1.trans hF) (by simpa [Act.put] using hp.1) h
   · cases h
theorem RG.range {g : Operand} {ps : Array Tmp} {assign body : Code} {gf : Nat} {lb : Array Value} (H : Hp w0 S L w) (hg : evM M g = some (.func (.func gf) #[] lb)) (he : ∀ args w, (callFunc gf args).run P w = .ok (.enter gf args) w)
   {Xt : Type} (inv : Nat → Xt → Prop) (Lx : Nat → Xt → List Ent) (invr : Xt → Prop) (Lr : Xt → List Ent) {N : Nat} {enc : Nat → Array Value} {Rd : World → Prop} (hit : Iter P gf lb N enc Rd) (hps : ∀ k, (enc k).size = ps.size)
   (x0 : Xt) (h0 : inv 0 x0) (hL0 : Lx 0 x0 = L) (hRd : ∀ k x E W, inv k x → Hp w0 S (Lx k x ++ E) W → Rd W)
   (Mb : Nat → FM) (hMb : ∀ k, putL n (ps.toList.zip (enc k).toList) M = some (Mb k))
   (hround : ∀ (D l : Nat) (oR oB : Obj) (k : Nat) (x : Xt) (W : World) (K : Act → World → Prop), k < N → inv k x → Hp w0 S (Lx k x ++ [.obj D DF, .obj l oR]) W →
     (∀ (F : Array Value) (M' : FM) (L' : List Ent) (W' : World), F.size = n → Fits F M' → Hp w0 S (L' ++ [.obj D DF, .obj l oR]) W' →
       (∀ W'', Hp w0 S (L' ++ [.obj D DF, .obj l oB]) W'' → RG P body (some l) [] (RoundQ w0 S inv Lx invr Lr k [.obj D DF, .obj l oB]) n M' W'') → K ⟨F, []⟩ W') →
     RG P assign (some l) [] (Exit.then K (fun _ _ _ => False)) n (Mb k) W)
   (hdone : ∀ (D : Nat) (x : Xt) (W : World), inv N x → Hp w0 S (Lx N x ++ [.obj D DF]) W → ∀ F : Array Value, F.size = n → Fits F M → Q .normal ⟨F, [MK D]⟩ W)
   (hstop : ∀ (D : Nat) (x : Xt) (W : World), invr x → Hp w0 S (Lr x ++ [.obj D DF]) W → ∀ F : Array Value, F.size = n → Fits F M → Q .ret ⟨F, [MK D]⟩ W) :
   RG P (.rangeFunc g ps assign body) none [] Q n M w := by
 intro F hF hM
 refine wpIn_rangeFunc ?_
 intro fn _
 have hev : (⟨F, []⟩ : Act).eval g = .func (.func gf) #[] lb := evM_fits hM hg
 obtain ⟨rec, hrec⟩ : ∃ rec : LoopState → Option Code → Loop, rec = fun st pe => { state := st, pending := pe, fn, tmps := F, params := ps, assign, body, defers := w.heap.size } := ⟨_, rfl⟩
 have H1 := (H.newObj DF).newObj (.loop (rec .ready none))
 rw [List.append_assoc] at H1
 obtain ⟨W1, hW1⟩ : ∃ W1, (w.alloc DF).alloc (.loop (rec .ready none)) = W1 := ⟨_, rfl⟩
 rw [hW1, World.size_alloc] at H1
 refine ⟨w.heap.size + 1, [MK w.heap.size], W1, { target := .fn (.func gf) lb, args := #[.func (.yield (w.heap.size + 1)) #[] #[]] }, W1, gf, #[.func (.yield (w.heap.size + 1)) #[] #[]] ++ lb, W1, ?_, ?_, fun _ _ => trivial, ?_, fun h => (by cases h), ?_⟩
 · rw [← hW1, hrec]
   exact run_enterLoop_outer _ _ _ _ _
 · simp only [resolve, hev]
   simp [go_sem]
 · simp [invoke, go_sem, he]
 · generalize w.heap.size = D at *
   have hyield : ∀ k W, k < N → (∃ x, inv k x ∧ Hp w0 S (Lx k x ++ [.obj D DF, .obj (D + 1) (.loop (rec .ready none))]) W) → YieldAt (FR none) 0 P (D + 1) (enc k) W fun e W' =>
       (e = .returned (.bool true) ∧ ∃ x, inv (k + 1) x ∧ Hp w0 S (Lx (k + 1) x ++ [.obj D DF, .obj (D + 1) (.loop (rec .ready none))]) W') ∨
       (e = .returned (.bool false) ∧ ∃ x, invr x ∧ Hp w0 S (Lr x ++ [.obj D DF, .obj (D + 1) (.loop (rec .done (some .ret)))]) W') := by
     rintro k W hk ⟨x, hx, HW⟩
     have hl := HW.last
     have hy := run_yield (P := P) (args := enc k) hl (by rw [hrec]; exact hps k)
     rw [hrec] at hy
     refine ⟨fn, _, assign, body, hy, roundIn_of_wpIn (F := FR none) trivial ?_⟩
     have hfit : ((ps.zip (enc k)).foldl (fun t (p, v) => t.setIfInBounds p v) F).size = n ∧ Fits ((ps.zip (enc k)).foldl (fun t (p, v) => t.setIfInBounds p v) F) (Mb k) := by
       have h2 := putL_fits _ hF hM (hMb k)
       rw [← Array.foldl_toList, Array.toList_zip]
       exact h2
     refine hround D (D + 1) (.loop (rec .ready none)) (.loop { rec .ready none with state := .busy }) k x W _ hk hx HW ?_ _ hfit.1 hfit.2
     intro F' M' L' W' hF' hM' HW' hbody
     have hl' := HW'.last
     refine ⟨_, run_beginRound hl' (by rw [hrec]), ?_⟩
     have HB := HW'.turnLast (.loop { rec .ready none with state := .busy })
     refine wpIn_mono (hbody _ HB F' hF' hM') ?_
     intro e a3 W3 hp
     cases e with
     | normal =>
       obtain ⟨x', hx', H3⟩ := hp
       have hl3 := H3.last
       have hr := run_endRound (P := P) none hl3
       rw [hrec] at hr
       refine ⟨_, _, hr, .inl ⟨rfl, x', hx', ?_⟩⟩
       have H4 := H3.turnLast (.loop (rec .ready none))
       rw [hrec] at H4 ⊢
       exact H4
     | ret =>
       obtain ⟨x', hx', H3⟩ := hp
       have hl3 := H3.last
       have hr := run_endRound (P := P) (some .ret) hl3
       rw [hrec] at hr
       refine ⟨_, _, hr, .inr ⟨rfl, x', hx', ?_⟩⟩
       have H4 := H3.turnLast (.loop (rec .done (some .ret)))
       rw [hrec] at H4 ⊢
       exact H4
     | _ => exact hp.elim
   refine (callsFR (hit (D + 1) (fun k W => ∃ x, inv k x ∧ Hp w0 S (Lx k x ++ [.obj D DF, .obj (D + 1) (.loop (rec .ready none))]) W)
     (fun W => ∃ x, invr x ∧ Hp w0 S (Lr x ++ [.obj D DF, .obj (D + 1) (.loop (rec .done (some .ret)))]) W)
     (fun k W ⟨x, hx, HW⟩ => hRd k x _ W hx HW) (fun k W W' ⟨x, hx, HW⟩ hb => ⟨x, hx, HW.step hb⟩) hyield W1 ⟨x0, h0, by rw [hL0]; exact H1⟩)).mono ?_
   rintro e W2 ⟨⟨v, rfl⟩, (⟨x, hx, HW⟩ | ⟨x, hx, HW⟩)⟩
   · have hl := HW.last
     have hr := run_endLoop (P := P) hl (by rw [hrec]; simp)
     rw [hrec] at hr
     exact ⟨none, _, hr, hdone D x _ hx (HW.turnLast _).dropLast F hF hM⟩
   · have hl := HW.last
     have hr := run_endLoop (P := P) hl (by rw [hrec]; simp)
     rw [hrec] at hr
     exact ⟨some .ret, _, hr, wpIn_ret (hstop D x _ hx (HW.turnLast _).dropLast F hF hM)⟩
end
end Go.Proofs.Ythcdelpdgkoioaa
namespace Go.Proofs.Ythcdelpdgkoioaa
open Go.RowKit
section
variable {P : Program} {w0 w w' : World} {S : List Nat} {L A' B' : List Ent}
theorem RdO.blk (H : Hp w0 S (A' ++ B') w) (i : Nat) {b o : Nat} {cs : List Value} {t : TypeId} (n : Nat) {xs : List Value} (hL : B'[i]? = some (.blk b cs t)) (hx : (cs.drop o).take n = xs) : RdO w (ids A') (some ⟨b, o, none⟩) xs := by
 have hb : Blk w b cs t := H.ents _ (List.mem_append_right _ (List.mem_of_getElem? hL))
 have hnd := H.nd
 rw [ids_append] at hnd
 obtain ⟨_, _, n3⟩ := List.nodup_append.1 hnd
 intro W hs hk
 have hb' : Blk W b cs t := hb.same (hk b hb.lt (fun hin => n3 _ hin _ (ids_mem (List.mem_of_getElem? hL) (by simp [Ent.ids])) rfl))
 exact RdS.blk hb' o n hx
end
end Go.Proofs.Ythcdelpdgkoioaa
namespace Go.Proofs.Ythcdelpdgkoioaa
open Go.RowKit
section
variable {w0 w : World} {S : List Nat} {L R A' B' : List Ent} {Bs Cs : List (Option Addr × Nat × Nat × TypeId × List Value)}
theorem Hp.bagNil (H : Hp w0 S L w) : Hp w0 S (L ++ [.bag []]) w := by
 refine H.callNew (L' := [.bag []]) ⟨rfl, rfl, rfl, Nat.le_refl _, fun k hk _ => rfl, ?_, ?_, by simp [ids, Ent.ids]⟩
 · intro e he
   simp at he
   subst he
   exact fun p hp => by cases hp
 · intro k hk
   simp [ids, Ent.ids] at hk
theorem Hp.bagIn {A : Option Addr} {n c e : Nat} {xs : List Value} (H : Hp w0 S (.row A n c e 1 xs :: .bag Bs :: R) w) : Hp w0 S (.bag ((A, n, c, e, xs) :: Bs) :: R) w := by
 have hi : ids (.bag ((A, n, c, e, xs) :: Bs) :: R) = ids (.row A n c e 1 xs :: .bag Bs :: R) := by simp [ids, Ent.ids]
 refine ⟨H.os, H.tape, H.output, H.size, H.keep, ?_, by rw [hi]; exact H.old, by rw [hi]; exact H.nd⟩
 intro x hx
 rcases List.mem_cons.1 hx with rfl | h
 · intro p hp
   rcases List.mem_cons.1 hp with rfl | h
   · exact H.ents (.row A n c e 1 xs) (by simp)
   · exact H.ents (.bag Bs) (by simp) p h
 · exact H.ents x (by simp [h])
theorem RdO.bag (H : Hp w0 S (A' ++ B') w) (i : Nat) {r : Option Addr} {n c e : Nat} {xs : List Value} (hL : B'[i]? = some (.bag Bs)) (hm : (r, n, c, e, xs) ∈ Bs) : RdO w (ids A') r xs := by
 have hb : w.ownsRow 0 e 1 (.slice r n c) n xs := (H.ents _ (List.mem_append_right _ (List.mem_of_getElem? hL))) _ hm
 have hr : RdS w r xs := RdS.row hb
 have hnd := H.nd
 rw [ids_append] at hnd
 obtain ⟨_, _, n3⟩ := List.nodup_append.1 hnd
 intro W hs hk
 rcases hr with h | ⟨a, hA, ha, hc⟩
 · exact .inl h
 · refine .inr ⟨a, hA, Nat.lt_of_lt_of_le ha hs, fun j v hv => ?_⟩
   have hb : (a.add j).block = a.block := add_block a j
   rw [World.cell?_of_block (w := w) (hk (a.add j).block (by rw [hb]; exact ha) (fun hin => ?_))]
   · exact hc j v hv
   · rw [hb] at hin
     exact n3 _ hin _ (ids_mem (List.mem_of_getElem? hL) (by subst hA; exact List.mem_flatMap.2 ⟨_, hm, by simp⟩)) rfl
theorem Hp.bagRd (H : Hp w0 S L w) (i : Nat) {r : Option Addr} {n c e : Nat} {xs : List Value} (hL : L[i]? = some (.bag Bs)) (hm : (r, n, c, e, xs) ∈ Bs) : RdS w r xs := RdS.row ((H.ents _ (List.mem_of_getElem? hL)) _ hm)
end
end Go.Proofs.Ythcdelpdgkoioaa
namespace Go.Proofs.Ythcdelpdgkoioaa
open Go.RowKit Go.Conc
structure Msg where
 A : Option Addr
 b : List UInt8
 c : Nat
def Msg.v (m : Msg) : Value := .slice m.A m.b.length m.c
def chO (room : Nat) (l : List Msg) (cl : Bool) (s r : Nat) : Obj := .chan room (l.map Msg.v).toArray cl s r false
section
variable {P : Program} {ops : Array Oper} {Q : Exit → Act → World → Prop} {n : Nat} {M M' : FM} {w0 w w' : World} {S : List Nat} {L : List Ent}
theorem Hp.objNew (H : Hp w0 S L w) (o : Obj) : Hp w0 S (L ++ [.obj w.heap.size o]) (w.alloc o) := by
 refine H.callNew (L' := [.obj w.heap.size o]) ⟨rfl, rfl, rfl, by simp, fun k hk _ => Below.heap_alloc _ _ _ hk, ?_, fun k hk => .inl (by simp [ids, Ent.ids] at hk; omega), by simp [ids, Ent.ids]⟩
 intro e he
 simp at he
 subst he
 exact heap_alloc_new w o
theorem Hp.objSet (H : Hp w0 S L w) (i : Nat) {b : Nat} {o : Obj} (hL : L[i]? = some (.obj b o)) (o' : Obj) : Hp w0 S (L.set i (.obj b o')) { w with heap := w.heap.setIfInBounds b o' } := by
 have hb : b < w.heap.size := (Array.getElem?_eq_some_iff.1 (H.objAt i hL)).1
 exact H.turn i hL rfl (by show (w.heap.setIfInBounds b o')[b]? = some o'; simp [hb]) rfl rfl rfl (by simp) (fun k _ hk => by
   simp only [Ent.ids, List.mem_cons, List.not_mem_nil, or_false] at hk
   exact Array.getElem?_setIfInBounds_ne (fun h => hk h.symm))
theorem Hp.makeChan (H : Hp w0 S L w) {t e : TypeId} {dir : ChanDir} {i : TypeInfo} (ht : P.underlying t = some (.chan dir e)) (hi : P.info? e = some i) (n : Nat) (h63 : n ≤ 1000000) (hb : i.bytes ≤ 1000) :
   ∃ c w', (Instr.makeChan t (.int .i64 (n : Int))).run P w = .ok (.chan (some c)) w' ∧ Hp w0 S (L ++ [.obj c (chO n [] false 0 0)]) w' := by
 refine ⟨_, _, run_makeChan ht hi .i64 n (by omega) ?_, H.objNew _⟩
 have : i.bytes * n ≤ 1000 * 1000000 := Nat.mul_le_mul hb h63
 have h2 : ((i.bytes * n : Nat) : Int) ≤ 281474976710544 := by omega
 rw [Int.natCast_mul] at h2
 exact h2
theorem Hp.lenChan (H : Hp w0 S L w) (i : Nat) {c room s r : Nat} {l : List Msg} {cl : Bool} (hL : L[i]? = some (.obj c (chO room l cl s r))) {t ty e : TypeId} {dir : ChanDir} (ht : P.underlying t = some (.chan dir e)) :
   (Builtin.len_ #[t] ty #[.chan (some c)]).run P w = .ok (.int .i64 (l.length : Int)) w := by
 rw [run_len_chan t ty ht (H.objAt i hL)]
 simp [goInt]
theorem Hp.closeChan (H : Hp w0 S L w) (i : Nat) {c room s r : Nat} {l : List Msg} (hL : L[i]? = some (.obj c (chO room l false s r))) (ats : Array TypeId) (ty : TypeId) :
   ∃ w', (Builtin.close_ ats ty #[.chan (some c)]).run P w = .ok (.tuple #[]) w' ∧ Hp w0 S (L.set i (.obj c (chO room l true s r))) w' :=
 ⟨_, run_close_open ats ty (H.objAt i hL), H.objSet i hL _⟩
theorem GN.sendRoom {id : Nat} {o : Oper} {x y : Operand} {T : TypeId} {z : Value} (H : Hp w0 S L w) (i : Nat) {c room s r : Nat} {l : List Msg} (m : Msg) (hL : L[i]? = some (.obj c (chO room l false s r))) (ho : ops[0]? = some o) (hg : o.guard = none) (hop : o.op = .select #[⟨x, some y, T⟩] false)
   (hz : (zeroValue T).run P w = .ok z w) (hx : evM M x = some (.chan (some c))) (hy : evM M y = some m.v) (hroom : l.length < room) (ts : List Nat) (M' : FM) (hp : (putM n M o.dst (.tuple #[.int .i64 0, .bool false])).bind (pick ts) = some M')
   (h : ∀ w', Hp w0 S (L.set i (.obj c (chO room (l ++ [m]) false (s + 1) r))) w' → GL P ops Q 1 n M' w') : GN P (.region id ops false) Q n M w := by
 have hc := H.objAt i hL
 refine GN.comm (blocking := false) (cases_ := #[scase c m.v z]) (v := .tuple #[.int .i64 0, .bool false]) ho hg (fun F hF hM => ?_) (fun fr cs es hst => step_lone_select_send_room hst hc (by simpa using hroom)) ts M' hp (h _ ?_)
 · rw [exec_sel1 hop (evM_fits hM hx) hz]
   simp [scase, evM_fits hM hy]
 · have e : chO room (l ++ [m]) false (s + 1) r = .chan room ((l.map Msg.v).toArray.push m.v) false (s + 1) r false := by simp [chO]
   rw [e]
   exact H.objSet i hL _
theorem GN.sendFull {id : Nat} {o : Oper} {x y : Operand} {T : TypeId} {z v : Value} (H : Hp w0 S L w) (i : Nat) {c room s r : Nat} {l : List Msg} (hL : L[i]? = some (.obj c (chO room l false s r))) (ho : ops[0]? = some o) (hg : o.guard = none) (hop : o.op = .select #[⟨x, some y, T⟩] false)
   (hz : (zeroValue T).run P w = .ok z w) (hx : evM M x = some (.chan (some c))) (hy : evM M y = some v) (hfull : room ≤ l.length) (ts : List Nat) (M' : FM) (hp : (putM n M o.dst (.tuple #[.int .i64 (-1), .bool false])).bind (pick ts) = some M')
   (h : GL P ops Q 1 n M' w) : GN P (.region id ops false) Q n M w := by
 have hc := H.objAt i hL
 refine GN.comm (blocking := false) (cases_ := #[scase c v z]) (v := .tuple #[.int .i64 (-1), .bool false]) ho hg (fun F hF hM => ?_) (fun fr cs es hst => step_lone_select_send_full hst hc (by simpa using hfull)) ts M' hp h
 rw [exec_sel1 hop (evM_fits hM hx) hz]
 simp [scase, evM_fits hM hy]
theorem GN.recvBuf {id : Nat} {o : Oper} {x : Operand} {T : TypeId} {z : Value} (H : Hp w0 S L w) (i : Nat) {c room s r : Nat} {l : List Msg} {m : Msg} {cl : Bool} (hL : L[i]? = some (.obj c (chO room (m :: l) cl s r))) (ho : ops[0]? = some o) (hg : o.guard = none) (hop : o.op = .select #[⟨x, none, T⟩] false)
   (hz : (zeroValue T).run P w = .ok z w) (hx : evM M x = some (.chan (some c))) (ts : List Nat) (M' : FM) (hp : (putM n M o.dst (.tuple #[.int .i64 0, .bool true, m.v])).bind (pick ts) = some M')
   (h : ∀ w', Hp w0 S (L.set i (.obj c (chO room l cl s (r + 1)))) w' → GL P ops Q 1 n M' w') : GN P (.region id ops false) Q n M w := by
 have hc := H.objAt i hL
 refine GN.comm (blocking := false) (cases_ := #[rcase c z]) (v := .tuple #[.int .i64 0, .bool true, m.v]) ho hg (fun F hF hM => ?_) (fun fr cs es hst => ?_) ts M' hp (h _ (H.objSet i hL (chO room l cl s (r + 1))))
 · rw [exec_sel1 hop (evM_fits hM hx) hz]
   rfl
 · have hs := step_lone_select_recv_buf hst hc (by simp)
   have e1 : ((m :: l).map Msg.v).toArray.getD 0 undef = m.v := by simp
   have e2 : ((m :: l).map Msg.v).toArray.extract 1 ((m :: l).map Msg.v).toArray.size = (l.map Msg.v).toArray := by
     apply Array.ext'
     rw [Array.toList_extract]
     simp [List.extract_eq_take_drop]
     exact List.take_of_length_le (by simp)
   rw [e1, e2] at hs
   exact hs
end
end Go.Proofs.Ythcdelpdgkoioaa
set_option maxRecDepth 100000
namespace Go.Proofs.Ythcdelpdgkoioaa
open Go.RowKit
theorem getD8 {bs : List UInt8} {k : Nat} (h : k < bs.length) : bs[k]? = some (bs.getD k 0) := by rw [List.getD_eq_getElem?_getD, List.getElem?_eq_getElem h]; rfl
theorem Clone_some (xs : List UInt8) (A : Option Addr) (n c : Nat) (w : World) (hA : A.isNone = false) (hx : RdS w A (by8 xs)) (hn : n = xs.length) (hb : n ≤ 1099511627776) : Calls Try.prog 17 #[.slice A n c] w fun e w' => ∃ A c, e = .returned (.slice A n c) ∧ Hp w [] [.row A n c 5 1 (by8 xs)] w' := by
 refine calls_G (args := [.slice A n c]) Try.func17 rfl Try.ntmps17 rfl ?_
 intro Q0 hRet hNor hPan
 have H := Hp.start w
 have H : Hp w [] [] w := H
 refine G.seqK fun K1 hK2 => ?_
 refine G.region ?_
 refine GL.run (j := 1) 1 [0] [(0, .slice A n c)] (by kernel_rfl) rfl ?_
 refine GL.k rfl hK2 (fun _ _ h => h) ?_
 refine G.seqK fun K3 hK4 => ?_
 refine G.seqK fun K5 hK6 => ?_
 refine G.region ?_
 refine GL.run (j := 1) 1 [0, 3] [(0, .slice A n c), (3, .slice A n c)] (by kernel_rfl) rfl ?_
 refine GL.sem (j := 2) (run_sl_nil (P := Try.prog) (sz := 1) (t := 22) (n := n) (c := c) (A := A) (by kernel_rfl) _) [0, 4] [(0, .slice A n c), (4, .bool (Option.isNone A))] (by kernel_rfl) (by kernel_rfl) rfl ?_
 refine GL.k rfl hK6 (fun _ _ h => h) ?_
 have hb7 : (Option.isNone A) = false := hA
 rw [hb7]
 refine G.no rfl ?_
 refine G.skipK hK4 (fun _ _ h => h) ?_
 refine G.seqK fun K8 hK9 => ?_
 refine G.region ?_
 obtain ⟨p10, w11, r12, H13⟩ := H.madeRow (P := Try.prog) (Instr.buildSlice 22 0 #[]) (fun b_ => .slice (some ⟨b_, 0, none⟩) 0 0) [] 5 0 0 1 (by kernel_rfl) (by decide) (by decide) rfl
 have H13 : Hp w [] [.row (some ⟨p10, 0, none⟩) 0 0 5 1 (by8 ([] : List UInt8))] w11 := H13
 refine GL.sem (j := 1) (r12) [0, 5] [(0, .slice A n c), (5, .slice (some ⟨p10, 0, none⟩) 0 0)] (by kernel_rfl) (by kernel_rfl) rfl ?_
 refine GL.run (j := 2) 1 [5, 6] [(5, .slice (some ⟨p10, 0, none⟩) 0 0), (6, .slice A n c)] (by kernel_rfl) rfl ?_
 obtain ⟨A14, c15, w16, r17, H18⟩ := H13.append (P := Try.prog) (e := 5) (sz := 1) (by_ := 1) (n := 0) (c := 0) (m := n) (d := c) (t := 22) (ty := 22) (xs := by8 ([] : List UInt8)) (news := by8 xs) 0 rfl (by kernel_rfl) (hx.hp H13) (by first | (simp [by8_length]; done) | (rw [by8_length]; omega) | (rw [by8_length, putB_length])) (by8_one _) (by omega) (by simp only [maxLen]; omega)
 rw [Nat.zero_add] at r17 H18
 have H18 : Hp w [] [.row A14 n c15 5 1 (by8 xs)] w16 := H18
 refine GL.sem (j := 3) (r17) [7] [(7, .slice A14 n c15)] (by kernel_rfl) (by kernel_rfl) rfl ?_
 refine GL.run (j := 4) 1 [2] [(2, .slice A14 n c15)] (by kernel_rfl) rfl ?_
 refine GL.k rfl hK9 (fun _ _ h => h) ?_
 refine G.ret ?_
 intro F_ hF_ hM_
 refine hRet _ _ (bodyPost_1 rfl (RV.tmp rfl) ?_ F_ hF_ hM_)
 exact ⟨_, _, rfl, H18.sub (by simp)⟩
theorem Clone_nil (xs : List UInt8) (n c : Nat) (w : World) (hx : RdS w none (by8 [])) (hn : n = 0) (hb : n ≤ 1099511627776) : Calls Try.prog 17 #[.slice none n c] w fun e w' => ∃ A c, e = .returned (.slice A n c) ∧ Hp w [] [.row A n c 5 1 (by8 [])] w' := by
 refine calls_G (args := [.slice none n c]) Try.func17 rfl Try.ntmps17 rfl ?_
 intro Q0 hRet hNor hPan
 have H := Hp.start w
 have H : Hp w [] [] w := H
 refine G.seqK fun K1 hK2 => ?_
 refine G.region ?_
 refine GL.run (j := 1) 1 [0] [(0, .slice none n c)] (by kernel_rfl) rfl ?_
 refine GL.k rfl hK2 (fun _ _ h => h) ?_
 refine G.seqK fun K3 hK4 => ?_
 refine G.seqK fun K5 hK6 => ?_
 refine G.region ?_
 refine GL.run (j := 1) 1 [0, 3] [(0, .slice none n c), (3, .slice none n c)] (by kernel_rfl) rfl ?_
 refine GL.sem (j := 2) (run_sl_nil (P := Try.prog) (sz := 1) (t := 22) (n := n) (c := c) (A := none) (by kernel_rfl) _) [0, 4] [(0, .slice none n c), (4, .bool true)] (by kernel_rfl) (by kernel_rfl) rfl ?_
 refine GL.k rfl hK6 (fun _ _ h => h) ?_
 refine G.yes rfl ?_
 refine G.seqK fun K7 hK8 => ?_
 refine G.region ?_
 refine GL.run (j := 1) 1 [2] [(2, .slice none 0 0)] (by kernel_rfl) rfl ?_
 refine GL.k rfl hK8 (fun _ _ h => h) ?_
 refine G.ret ?_
 intro F_ hF_ hM_
 refine hRet _ _ (bodyPost_1 rfl (RV.tmp rfl) ?_ F_ hF_ hM_)
 obtain rfl : n = 0 := by omega
 exact ⟨none, 0, rfl, H.rowNil 5 1⟩
theorem Clone_calls (xs : List UInt8) (A : Option Addr) (n c : Nat) (w : World) (hx : RdS w A (by8 xs)) (hn : n = xs.length) (hb : n ≤ 1099511627776) : Calls Try.prog 17 #[.slice A n c] w fun e w' => ∃ A c, e = .returned (.slice A n c) ∧ Hp w [] [.row A n c 5 1 (by8 xs)] w' := by
 cases A with
 | some a => exact Clone_some xs (some a) n c w rfl hx hn hb
 | none =>
   have hxs : xs = [] := by
     rcases hx with h | ⟨a, h, _⟩
     · simpa [by8] using h
     · cases h
   subst hxs
   exact Clone_nil [] n c w hx hn hb
structure Lane where
 ch : Nat
 l : List Msg
 p : Nat
 s : Nat
 r : Nat
def Lane.put (a : Lane) (m : Msg) : Lane := { a with l := a.l ++ [m], s := a.s + 1 }
def Lane.took (a : Lane) (t : List Msg) : Lane := { a with l := t, p := 0, r := a.r + 1 }
def Lane.pass (a : Lane) : Lane := { a with p := if a.l.length = 0 then a.p else a.p + 1 }
def Lane.new (c : Nat) : Lane := ⟨c, [], 0, 0, 0⟩
def Lane.z (a : Lane) : Prop := (a.l.length = 0 → a.p = 0) ∧ a.p ≤ 1000000
def tkN (a0 a1 a2 : Lane) : Nat := if a0.l.length ≠ 0 ∧ 4 ≤ a0.p then 0 else if a1.l.length ≠ 0 ∧ 4 ≤ a1.p then 1 else if a2.l.length ≠ 0 ∧ 4 ≤ a2.p then 2 else if a0.l.length ≠ 0 then 0 else if a1.l.length ≠ 0 then 1 else if a2.l.length ≠ 0 then 2 else 3
def tkI (a0 a1 a2 : Lane) : Int := if tkN a0 a1 a2 = 3 then -1 else (tkN a0 a1 a2 : Int)
def LnOk (G : List (Option Addr × Nat × Nat × TypeId × List Value)) (a : Lane) : Prop := ∀ m ∈ a.l, (m.A, m.b.length, m.c, (5 : TypeId), by8 m.b) ∈ G
theorem LnOk.put {G : List (Option Addr × Nat × Nat × TypeId × List Value)} {a : Lane} (h : LnOk G a) (m : Msg) : LnOk ((m.A, m.b.length, m.c, 5, by8 m.b) :: G) (a.put m) := by
 intro x hx
 rcases List.mem_append.1 hx with hx | hx
 · exact List.mem_cons_of_mem _ (h x hx)
 · simp only [List.mem_cons, List.not_mem_nil, or_false] at hx
   subst hx
   exact List.mem_cons_self
theorem LnOk.more {G : List (Option Addr × Nat × Nat × TypeId × List Value)} {a : Lane} (h : LnOk G a) (p : Option Addr × Nat × Nat × TypeId × List Value) : LnOk (p :: G) a := fun x hx => List.mem_cons_of_mem _ (h x hx)
theorem LnOk.took {G : List (Option Addr × Nat × Nat × TypeId × List Value)} {a : Lane} (h : LnOk G a) {m : Msg} {t : List Msg} (hl : a.l = m :: t) : LnOk G (a.took t) ∧ (m.A, m.b.length, m.c, (5 : TypeId), by8 m.b) ∈ G :=
 ⟨fun x hx => h x (by rw [hl]; exact List.mem_cons_of_mem _ hx), h m (by rw [hl]; exact List.mem_cons_self)⟩
theorem LnOk.pass {G : List (Option Addr × Nat × Nat × TypeId × List Value)} {a : Lane} (h : LnOk G a) : LnOk G a.pass := h
theorem zv (w : World) : (zeroValue 22).run Try.prog w = .ok (.slice none 0 0) w := pev_run (by kernel_rfl) w
theorem chInfo : ∃ i, Try.prog.info? 22 = some i ∧ i.bytes ≤ 1000 := by
 have h : (Try.prog.info? 22).map (fun i => decide (i.bytes ≤ 1000)) = some true := by kernel_rfl
 obtain ⟨i, hi, hb⟩ := Option.map_eq_some_iff.1 h
 exact ⟨i, hi, of_decide_eq_true hb⟩
theorem lane_calls (n : Int) (w : World) : Calls Try.prog 16 #[.int .i64 n] w fun e w' => e = .returned (.bool (decide (0 ≤ n ∧ n < 3))) ∧ Hp w [] [] w' := by
 refine calls_G (args := [.int .i64 n]) Try.func16 rfl Try.ntmps16 rfl ?_
 intro Q0 hRet hNor hPan
 have H := Hp.start w
 have H : Hp w [] [] w := H
 refine G.seqK fun K1 hK2 => ?_
 refine G.region ?_
 refine GL.run (j := 1) 1 [0] [(0, .int .i64 n)] (by kernel_rfl) rfl ?_
 refine GL.k rfl hK2 (fun _ _ h => h) ?_
 refine G.seqK fun K3 hK4 => ?_
 refine G.region ?_
 refine GL.run (j := 3) 3 [0, 5] [(0, .int .i64 n), (5, .bool (decide (0 ≤ n)))] (by kernel_rfl) rfl ?_
 cases hb5 : (decide (0 ≤ n))
 · skip
   have hb5f := of_decide_eq_false hb5
   refine GL.run (j := 7) 4 [2] [(2, .bool false)] (by kernel_rfl) rfl ?_
   refine GL.k rfl hK4 (fun _ _ h => h) ?_
   refine G.ret ?_
   intro F_ hF_ hM_
   refine hRet _ _ (bodyPost_1 rfl (RV.tmp rfl) ?_ F_ hF_ hM_)
   rw [show decide (0 ≤ n ∧ n < 3) = false from decide_eq_false (by omega)]
   exact ⟨rfl, H.sub (List.nil_sublist _)⟩
 · skip
   have hb5f := of_decide_eq_true hb5
   refine GL.run (j := 7) 4 [2] [(2, .bool (decide (n < 3)))] (by kernel_rfl) rfl ?_
   refine GL.k rfl hK4 (fun _ _ h => h) ?_
   refine G.ret ?_
   intro F_ hF_ hM_
   refine hRet _ _ (bodyPost_1 rfl (RV.tmp rfl) ?_ F_ hF_ hM_)
   rw [show decide (0 ≤ n ∧ n < 3) = (decide (n < 3)) from decide_eq_decide.2 ⟨fun h => by omega, fun h => by omega⟩]
   exact ⟨rfl, H.sub (List.nil_sublist _)⟩
theorem NewBad_calls (z : Int) (w : World) (hz : z < 1 ∨ 256 < z) : Calls Try.prog 7 #[.int .i64 z] w fun e w' => e = .returned (.tuple #[.pointer none, .int .i64 1]) ∧ Hp w [] [] w' := by
 refine calls_G (args := [.int .i64 z]) Try.func7 rfl Try.ntmps7 rfl ?_
 intro Q0 hRet hNor hPan
 have H := Hp.start w
 have H : Hp w [] [] w := H
 refine G.seqK fun K1 hK2 => ?_
 refine G.region ?_
 refine GL.run (j := 2) 2 [0] [(0, .int .i64 z)] (by kernel_rfl) rfl ?_
 refine GL.k rfl hK2 (fun _ _ h => h) ?_
 refine G.seqK fun K3 hK4 => ?_
 refine G.seqK fun K5 hK6 => ?_
 refine G.region ?_
 refine GL.run (j := 3) 3 [0, 8] [(0, .int .i64 z), (8, .bool (decide (z < 1)))] (by kernel_rfl) rfl ?_
 cases hb7 : (decide (z < 1))
 · skip
   have hb7f := of_decide_eq_false hb7
   refine GL.run (j := 6) 3 [0, 11] [(0, .int .i64 z), (11, .bool (decide (256 < z)))] (by kernel_rfl) rfl ?_
   refine GL.k rfl hK6 (fun _ _ h => h) ?_
   have hb8 : (decide (256 < z)) = true := decide_eq_true (by omega)
   rw [hb8]
   refine G.yes rfl ?_
   refine G.seqK fun K9 hK10 => ?_
   refine G.region ?_
   refine GL.run (j := 2) 2 [2, 3] [(2, .pointer none), (3, .int .i64 1)] (by kernel_rfl) rfl ?_
   refine GL.k rfl hK10 (fun _ _ h => h) ?_
   refine G.ret ?_
   intro F_ hF_ hM_
   refine hRet _ _ (bodyPost_2 rfl (RV.tmp rfl) (RV.tmp rfl) ?_ F_ hF_ hM_)
   exact ⟨rfl, H.sub (List.nil_sublist _)⟩
 · skip
   have hb7f := of_decide_eq_true hb7
   refine GL.run (j := 6) 3 [0, 11] [(0, .int .i64 z), (11, .bool true)] (by kernel_rfl) rfl ?_
   refine GL.k rfl hK6 (fun _ _ h => h) ?_
   refine G.yes rfl ?_
   refine G.seqK fun K11 hK12 => ?_
   refine G.region ?_
   refine GL.run (j := 2) 2 [2, 3] [(2, .pointer none), (3, .int .i64 1)] (by kernel_rfl) rfl ?_
   refine GL.k rfl hK12 (fun _ _ h => h) ?_
   refine G.ret ?_
   intro F_ hF_ hM_
   refine hRet _ _ (bodyPost_2 rfl (RV.tmp rfl) (RV.tmp rfl) ?_ F_ hF_ hM_)
   exact ⟨rfl, H.sub (List.nil_sublist _)⟩
theorem New_calls (room : Nat) (w : World) (h1 : 1 ≤ room) (h2 : room ≤ 256) : Calls Try.prog 7 #[.int .i64 (room : Int)] w fun e w' => ∃ d c0 c1 c2, e = .returned (.tuple #[.pointer (some ⟨d, 0, none⟩), .int .i64 0]) ∧ Hp w [] [.blk d [.chan (some (Lane.new c0).ch), .chan (some (Lane.new c1).ch), .chan (some (Lane.new c2).ch), .int .i64 (((Lane.new c0).p : Nat) : Int), .int .i64 (((Lane.new c1).p : Nat) : Int), .int .i64 (((Lane.new c2).p : Nat) : Int), .bool false] 52, .obj (Lane.new c0).ch (chO room (Lane.new c0).l false (Lane.new c0).s (Lane.new c0).r), .obj (Lane.new c1).ch (chO room (Lane.new c1).l false (Lane.new c1).s (Lane.new c1).r), .obj (Lane.new c2).ch (chO room (Lane.new c2).l false (Lane.new c2).s (Lane.new c2).r), .bag []] w' := by
 obtain ⟨inf, hinf, hinb⟩ := chInfo
 refine calls_G (args := [.int .i64 (room : Int)]) Try.func7 rfl Try.ntmps7 rfl ?_
 intro Q0 hRet hNor hPan
 have H := Hp.start w
 have H : Hp w [] [] w := H
 refine G.seqK fun K1 hK2 => ?_
 refine G.region ?_
 refine GL.run (j := 2) 2 [0] [(0, .int .i64 (room : Int))] (by kernel_rfl) rfl ?_
 refine GL.k rfl hK2 (fun _ _ h => h) ?_
 refine G.seqK fun K3 hK4 => ?_
 refine G.seqK fun K5 hK6 => ?_
 refine G.region ?_
 refine GL.run (j := 3) 3 [0, 8] [(0, .int .i64 (room : Int)), (8, .bool (decide ((room : Int) < 1)))] (by kernel_rfl) rfl ?_
 have hb7 : (decide ((room : Int) < 1)) = false := decide_eq_false (by omega)
 rw [hb7]
 refine GL.run (j := 6) 3 [0, 11] [(0, .int .i64 (room : Int)), (11, .bool (decide (256 < (room : Int))))] (by kernel_rfl) rfl ?_
 refine GL.k rfl hK6 (fun _ _ h => h) ?_
 have hb8 : (decide (256 < (room : Int))) = false := decide_eq_false (by omega)
 rw [hb8]
 refine G.no rfl ?_
 refine G.skipK hK4 (fun _ _ h => h) ?_
 refine G.seqK fun K9 hK10 => ?_
 refine G.region ?_
 refine GL.run (j := 1) 1 [0, 12] [(0, .int .i64 (room : Int)), (12, .agg #[.chan none, .chan none, .chan none, .int .i64 0, .int .i64 0, .int .i64 0, .bool false])] (by kernel_rfl) rfl ?_
 obtain ⟨p11, w12, r13, H14⟩ := H.box (P := Try.prog) 52 [.chan none, .chan none, .chan none, .int .i64 0, .int .i64 0, .int .i64 0, .bool false] (.agg #[.chan none, .chan none, .chan none, .int .i64 0, .int .i64 0, .int .i64 0, .bool false]) rfl
 have H14 : Hp w [] [.blk p11 [.chan none, .chan none, .chan none, .int .i64 0, .int .i64 0, .int .i64 0, .bool false] 52] w12 := H14
 refine GL.sem (j := 2) (r13) [0, 13] [(0, .int .i64 (room : Int)), (13, pt p11 0)] (by kernel_rfl) (by kernel_rfl) rfl ?_
 refine GL.run (j := 3) 1 [0, 4] [(0, .int .i64 (room : Int)), (4, pt p11 0)] (by kernel_rfl) rfl ?_
 refine GL.k rfl hK10 (fun _ _ h => h) ?_
 refine G.seqK fun K15 hK16 => ?_
 refine G.seqK fun K17 hK18 => ?_
 refine G.region ?_
 refine GL.run (j := 1) 1 [0, 4, 14] [(0, .int .i64 (room : Int)), (4, pt p11 0), (14, .int .i64 0)] (by kernel_rfl) rfl ?_
 refine GL.k rfl hK18 (fun _ _ h => h) ?_
 refine G.block ?_
 refine G.unroll 3 ?_
 refine G.seqK fun K19 hK20 => ?_
 refine G.region ?_
 refine GL.run (j := 1) 1 [0, 4, 14, 15] [(0, .int .i64 (room : Int)), (4, pt p11 0), (14, .int .i64 0), (15, .bool true)] (by kernel_rfl) rfl ?_
 refine GL.k rfl hK20 (fun _ _ h => h) ?_
 refine G.seqK fun K21 hK22 => ?_
 refine G.yes rfl ?_
 refine G.skipK hK22 (fun _ _ h => h) ?_
 refine G.seqK fun K23 hK24 => ?_
 refine G.block ?_
 refine G.seqK fun K25 hK26 => ?_
 refine G.region ?_
 refine GL.run (j := 2) 2 [0, 4, 5, 14] [(0, .int .i64 (room : Int)), (4, pt p11 0), (5, .int .i64 0), (14, .int .i64 0)] (by kernel_rfl) rfl ?_
 refine GL.k rfl hK26 (fun _ _ h => h) ?_
 refine G.heldP (Hp w [] []) (by kernel_rfl) (by kernel_rfl) (fun c_ a_ d_ v_ w_ h_ => hPan c_ a_ d_ v_ w_ h_) ?_
 have H27 := H14.drew
 generalize ({ w12 with drawn := w12.drawn + 1 } : World) = w28 at H27 ⊢
 have hS29 : Hp w [] [] w28 := H27.sub (List.Sublist.cons _ (List.Sublist.slnil))
 refine GP.run [0, 1, 2, 4, 5] [0, 4, 14, 18, 19, 22] [(0, .int .i64 (room : Int)), (4, pt p11 0), (14, .int .i64 0), (18, .int .i64 0), (19, .int .i64 (room : Int)), (22, pt p11 0)] [0, 1, 2, 4, 5] (by kernel_rfl) rfl hS29 ?_
 obtain ⟨c30, w31, r32, H33⟩ := H27.makeChan (P := Try.prog) (t := 49) Try.underlying49 hinf room (by omega) hinb
 have H33 : Hp w [] [.blk p11 [.chan none, .chan none, .chan none, .int .i64 0, .int .i64 0, .int .i64 0, .bool false] 52, .obj (Lane.new c30).ch (chO room (Lane.new c30).l false (Lane.new c30).s (Lane.new c30).r)] w31 := H33
 have hS34 : Hp w [] [] w31 := H33.sub (List.Sublist.cons _ (List.Sublist.cons _ (List.Sublist.slnil)))
 refine GP.made 3 r32 [0, 4, 14, 18, 20, 22] [(0, .int .i64 (room : Int)), (4, pt p11 0), (14, .int .i64 0), (18, .int .i64 0), (20, .chan (some (Lane.new c30).ch)), (22, pt p11 0)] (by kernel_rfl) (by kernel_rfl) (by kernel_rfl) hS34 ?_
 refine GP.run [6] [0, 4, 14, 20, 23] [(0, .int .i64 (room : Int)), (4, pt p11 0), (14, .int .i64 0), (20, .chan (some (Lane.new c30).ch)), (23, pt p11 0)] [0, 1, 2, 4, 5, 3, 6] (by kernel_rfl) rfl hS34 ?_
 obtain ⟨w35, r36, H37⟩ := H33.st (P := Try.prog) (o := 0) (ty := 49) (v := .chan (some (Lane.new c30).ch)) 0 rfl (by kernel_rfl) (by simp) rfl
 have H37 : Hp w [] [.blk p11 [.chan (some (Lane.new c30).ch), .chan none, .chan none, .int .i64 0, .int .i64 0, .int .i64 0, .bool false] 52, .obj (Lane.new c30).ch (chO room (Lane.new c30).l false (Lane.new c30).s (Lane.new c30).r)] w35 := H37
 have hS38 : Hp w [] [] w35 := H37.sub (List.Sublist.cons _ (List.Sublist.cons _ (List.Sublist.slnil)))
 refine GP.semU 7 r36 [0, 4, 14] [(0, .int .i64 (room : Int)), (4, pt p11 0), (14, .int .i64 0)] (by kernel_rfl) rfl rfl (by kernel_rfl) hS38 ?_
 refine GP.k (by kernel_rfl) hK24 (fun _ _ h => h) ?_
 refine G.region ?_
 refine GL.run (j := 2) 2 [0, 4, 14] [(0, .int .i64 (room : Int)), (4, pt p11 0), (14, .int .i64 1)] (by kernel_rfl) rfl ?_
 refine GL.round rfl ?_
 refine G.seqK fun K39 hK40 => ?_
 refine G.region ?_
 refine GL.run (j := 1) 1 [0, 4, 14, 15] [(0, .int .i64 (room : Int)), (4, pt p11 0), (14, .int .i64 1), (15, .bool true)] (by kernel_rfl) rfl ?_
 refine GL.k rfl hK40 (fun _ _ h => h) ?_
 refine G.seqK fun K41 hK42 => ?_
 refine G.yes rfl ?_
 refine G.skipK hK42 (fun _ _ h => h) ?_
 refine G.seqK fun K43 hK44 => ?_
 refine G.block ?_
 refine G.seqK fun K45 hK46 => ?_
 refine G.region ?_
 refine GL.run (j := 2) 2 [0, 4, 5, 14] [(0, .int .i64 (room : Int)), (4, pt p11 0), (5, .int .i64 1), (14, .int .i64 1)] (by kernel_rfl) rfl ?_
 refine GL.k rfl hK46 (fun _ _ h => h) ?_
 refine G.heldP (Hp w [] [.obj (Lane.new c30).ch (chO room (Lane.new c30).l false (Lane.new c30).s (Lane.new c30).r)]) (by kernel_rfl) (by kernel_rfl) (fun c_ a_ d_ v_ w_ h_ => hPan c_ a_ d_ v_ w_ h_) ?_
 have H47 := H37.drew
 generalize ({ w35 with drawn := w35.drawn + 1 } : World) = w48 at H47 ⊢
 have hS49 : Hp w [] [.obj (Lane.new c30).ch (chO room (Lane.new c30).l false (Lane.new c30).s (Lane.new c30).r)] w48 := H47.sub (List.Sublist.cons _ (List.Sublist.cons_cons _ (List.Sublist.slnil)))
 refine GP.run [0, 1, 2, 4, 5] [0, 4, 14, 18, 19, 22] [(0, .int .i64 (room : Int)), (4, pt p11 0), (14, .int .i64 1), (18, .int .i64 1), (19, .int .i64 (room : Int)), (22, pt p11 0)] [0, 1, 2, 4, 5] (by kernel_rfl) rfl hS49 ?_
 obtain ⟨c50, w51, r52, H53⟩ := H47.makeChan (P := Try.prog) (t := 49) Try.underlying49 hinf room (by omega) hinb
 have H53 : Hp w [] [.blk p11 [.chan (some (Lane.new c30).ch), .chan none, .chan none, .int .i64 0, .int .i64 0, .int .i64 0, .bool false] 52, .obj (Lane.new c30).ch (chO room (Lane.new c30).l false (Lane.new c30).s (Lane.new c30).r), .obj (Lane.new c50).ch (chO room (Lane.new c50).l false (Lane.new c50).s (Lane.new c50).r)] w51 := H53
 have hS54 : Hp w [] [.obj (Lane.new c30).ch (chO room (Lane.new c30).l false (Lane.new c30).s (Lane.new c30).r)] w51 := H53.sub (List.Sublist.cons _ (List.Sublist.cons_cons _ (List.Sublist.cons _ (List.Sublist.slnil))))
 refine GP.made 3 r52 [0, 4, 14, 18, 20, 22] [(0, .int .i64 (room : Int)), (4, pt p11 0), (14, .int .i64 1), (18, .int .i64 1), (20, .chan (some (Lane.new c50).ch)), (22, pt p11 0)] (by kernel_rfl) (by kernel_rfl) (by kernel_rfl) hS54 ?_
 refine GP.run [6] [0, 4, 14, 20, 23] [(0, .int .i64 (room : Int)), (4, pt p11 0), (14, .int .i64 1), (20, .chan (some (Lane.new c50).ch)), (23, pt p11 1)] [0, 1, 2, 4, 5, 3, 6] (by kernel_rfl) rfl hS54 ?_
 obtain ⟨w55, r56, H57⟩ := H53.st (P := Try.prog) (o := 1) (ty := 49) (v := .chan (some (Lane.new c50).ch)) 0 rfl (by kernel_rfl) (by simp) rfl
 have H57 : Hp w [] [.blk p11 [.chan (some (Lane.new c30).ch), .chan (some (Lane.new c50).ch), .chan none, .int .i64 0, .int .i64 0, .int .i64 0, .bool false] 52, .obj (Lane.new c30).ch (chO room (Lane.new c30).l false (Lane.new c30).s (Lane.new c30).r), .obj (Lane.new c50).ch (chO room (Lane.new c50).l false (Lane.new c50).s (Lane.new c50).r)] w55 := H57
 have hS58 : Hp w [] [.obj (Lane.new c30).ch (chO room (Lane.new c30).l false (Lane.new c30).s (Lane.new c30).r)] w55 := H57.sub (List.Sublist.cons _ (List.Sublist.cons_cons _ (List.Sublist.cons _ (List.Sublist.slnil))))
 refine GP.semU 7 r56 [0, 4, 14] [(0, .int .i64 (room : Int)), (4, pt p11 0), (14, .int .i64 1)] (by kernel_rfl) rfl rfl (by kernel_rfl) hS58 ?_
 refine GP.k (by kernel_rfl) hK44 (fun _ _ h => h) ?_
 refine G.region ?_
 refine GL.run (j := 2) 2 [0, 4, 14] [(0, .int .i64 (room : Int)), (4, pt p11 0), (14, .int .i64 2)] (by kernel_rfl) rfl ?_
 refine GL.round rfl ?_
 refine G.seqK fun K59 hK60 => ?_
 refine G.region ?_
 refine GL.run (j := 1) 1 [0, 4, 14, 15] [(0, .int .i64 (room : Int)), (4, pt p11 0), (14, .int .i64 2), (15, .bool true)] (by kernel_rfl) rfl ?_
 refine GL.k rfl hK60 (fun _ _ h => h) ?_
 refine G.seqK fun K61 hK62 => ?_
 refine G.yes rfl ?_
 refine G.skipK hK62 (fun _ _ h => h) ?_
 refine G.seqK fun K63 hK64 => ?_
 refine G.block ?_
 refine G.seqK fun K65 hK66 => ?_
 refine G.region ?_
 refine GL.run (j := 2) 2 [0, 4, 5, 14] [(0, .int .i64 (room : Int)), (4, pt p11 0), (5, .int .i64 2), (14, .int .i64 2)] (by kernel_rfl) rfl ?_
 refine GL.k rfl hK66 (fun _ _ h => h) ?_
 refine G.heldP (Hp w [] [.obj (Lane.new c30).ch (chO room (Lane.new c30).l false (Lane.new c30).s (Lane.new c30).r), .obj (Lane.new c50).ch (chO room (Lane.new c50).l false (Lane.new c50).s (Lane.new c50).r)]) (by kernel_rfl) (by kernel_rfl) (fun c_ a_ d_ v_ w_ h_ => hPan c_ a_ d_ v_ w_ h_) ?_
 have H67 := H57.drew
 generalize ({ w55 with drawn := w55.drawn + 1 } : World) = w68 at H67 ⊢
 have hS69 : Hp w [] [.obj (Lane.new c30).ch (chO room (Lane.new c30).l false (Lane.new c30).s (Lane.new c30).r), .obj (Lane.new c50).ch (chO room (Lane.new c50).l false (Lane.new c50).s (Lane.new c50).r)] w68 := H67.sub (List.Sublist.cons _ (List.Sublist.cons_cons _ (List.Sublist.cons_cons _ (List.Sublist.slnil))))
 refine GP.run [0, 1, 2, 4, 5] [0, 4, 14, 18, 19, 22] [(0, .int .i64 (room : Int)), (4, pt p11 0), (14, .int .i64 2), (18, .int .i64 2), (19, .int .i64 (room : Int)), (22, pt p11 0)] [0, 1, 2, 4, 5] (by kernel_rfl) rfl hS69 ?_
 obtain ⟨c70, w71, r72, H73⟩ := H67.makeChan (P := Try.prog) (t := 49) Try.underlying49 hinf room (by omega) hinb
 have H73 : Hp w [] [.blk p11 [.chan (some (Lane.new c30).ch), .chan (some (Lane.new c50).ch), .chan none, .int .i64 0, .int .i64 0, .int .i64 0, .bool false] 52, .obj (Lane.new c30).ch (chO room (Lane.new c30).l false (Lane.new c30).s (Lane.new c30).r), .obj (Lane.new c50).ch (chO room (Lane.new c50).l false (Lane.new c50).s (Lane.new c50).r), .obj (Lane.new c70).ch (chO room (Lane.new c70).l false (Lane.new c70).s (Lane.new c70).r)] w71 := H73
 have hS74 : Hp w [] [.obj (Lane.new c30).ch (chO room (Lane.new c30).l false (Lane.new c30).s (Lane.new c30).r), .obj (Lane.new c50).ch (chO room (Lane.new c50).l false (Lane.new c50).s (Lane.new c50).r)] w71 := H73.sub (List.Sublist.cons _ (List.Sublist.cons_cons _ (List.Sublist.cons_cons _ (List.Sublist.cons _ (List.Sublist.slnil)))))
 refine GP.made 3 r72 [0, 4, 14, 18, 20, 22] [(0, .int .i64 (room : Int)), (4, pt p11 0), (14, .int .i64 2), (18, .int .i64 2), (20, .chan (some (Lane.new c70).ch)), (22, pt p11 0)] (by kernel_rfl) (by kernel_rfl) (by kernel_rfl) hS74 ?_
 refine GP.run [6] [0, 4, 14, 20, 23] [(0, .int .i64 (room : Int)), (4, pt p11 0), (14, .int .i64 2), (20, .chan (some (Lane.new c70).ch)), (23, pt p11 2)] [0, 1, 2, 4, 5, 3, 6] (by kernel_rfl) rfl hS74 ?_
 obtain ⟨w75, r76, H77⟩ := H73.st (P := Try.prog) (o := 2) (ty := 49) (v := .chan (some (Lane.new c70).ch)) 0 rfl (by kernel_rfl) (by simp) rfl
 have H77 : Hp w [] [.blk p11 [.chan (some (Lane.new c30).ch), .chan (some (Lane.new c50).ch), .chan (some (Lane.new c70).ch), .int .i64 0, .int .i64 0, .int .i64 0, .bool false] 52, .obj (Lane.new c30).ch (chO room (Lane.new c30).l false (Lane.new c30).s (Lane.new c30).r), .obj (Lane.new c50).ch (chO room (Lane.new c50).l false (Lane.new c50).s (Lane.new c50).r), .obj (Lane.new c70).ch (chO room (Lane.new c70).l false (Lane.new c70).s (Lane.new c70).r)] w75 := H77
 have hS78 : Hp w [] [.obj (Lane.new c30).ch (chO room (Lane.new c30).l false (Lane.new c30).s (Lane.new c30).r), .obj (Lane.new c50).ch (chO room (Lane.new c50).l false (Lane.new c50).s (Lane.new c50).r)] w75 := H77.sub (List.Sublist.cons _ (List.Sublist.cons_cons _ (List.Sublist.cons_cons _ (List.Sublist.cons _ (List.Sublist.slnil)))))
 refine GP.semU 7 r76 [0, 4, 14] [(0, .int .i64 (room : Int)), (4, pt p11 0), (14, .int .i64 2)] (by kernel_rfl) rfl rfl (by kernel_rfl) hS78 ?_
 refine GP.k (by kernel_rfl) hK64 (fun _ _ h => h) ?_
 refine G.region ?_
 refine GL.run (j := 2) 2 [0, 4, 14] [(0, .int .i64 (room : Int)), (4, pt p11 0), (14, .int .i64 3)] (by kernel_rfl) rfl ?_
 refine GL.round rfl ?_
 refine G.seqK fun K79 hK80 => ?_
 refine G.region ?_
 refine GL.run (j := 1) 1 [0, 4, 14, 15] [(0, .int .i64 (room : Int)), (4, pt p11 0), (14, .int .i64 3), (15, .bool false)] (by kernel_rfl) rfl ?_
 refine GL.k rfl hK80 (fun _ _ h => h) ?_
 refine G.seqK fun K81 hK82 => ?_
 refine G.no rfl ?_
 refine G.exitK hK16 (fun _ _ h => h) ?_
 refine G.seqK fun K83 hK84 => ?_
 refine G.region ?_
 refine GL.run (j := 3) 3 [2, 3] [(2, pt p11 0), (3, .int .i64 0)] (by kernel_rfl) rfl ?_
 refine GL.k rfl hK84 (fun _ _ h => h) ?_
 refine G.ret ?_
 intro F_ hF_ hM_
 refine hRet _ _ (bodyPost_2 rfl (RV.tmp rfl) (RV.tmp rfl) ?_ F_ hF_ hM_)
 exact ⟨_, c30, c50, c70, rfl, H77.bagNil⟩
end Go.Proofs.Ythcdelpdgkoioaa
set_option maxRecDepth 100000
namespace Go.Proofs.Ythcdelpdgkoioaa
open Go.RowKit
set_option maxHeartbeats 4000000 in
theorem PutOk0_calls (S : List Nat) (d room : Nat) (a0 a1 a2 : Lane) (Gg : List (Option Addr × Nat × Nat × TypeId × List Value)) (B : Option Addr) (bs : List UInt8) (bc : Nat) (w : World) (h0 : Hp w S [.blk d [.chan (some a0.ch), .chan (some a1.ch), .chan (some a2.ch), .int .i64 (a0.p : Int), .int .i64 (a1.p : Int), .int .i64 (a2.p : Int), .bool false] 52, .obj a0.ch (chO room a0.l false a0.s a0.r), .obj a1.ch (chO room a1.l false a1.s a1.r), .obj a2.ch (chO room a2.l false a2.s a2.r), .bag Gg] w) (hx : RdO w S B (by8 bs)) (hr : a0.l.length < room) (hl : bs.length ≤ 4096) : Calls Try.prog 8 #[pt d 0, .int .i64 0, .slice B bs.length bc] w fun e w' => ∃ A' c', e = .returned (.int .i64 0) ∧ Hp w S [.blk d [.chan (some (a0.put (Msg.mk A' bs c')).ch), .chan (some a1.ch), .chan (some a2.ch), .int .i64 (((a0.put (Msg.mk A' bs c')).p : Nat) : Int), .int .i64 (a1.p : Int), .int .i64 (a2.p : Int), .bool false] 52, .obj (a0.put (Msg.mk A' bs c')).ch (chO room (a0.put (Msg.mk A' bs c')).l false (a0.put (Msg.mk A' bs c')).s (a0.put (Msg.mk A' bs c')).r), .obj a1.ch (chO room a1.l false a1.s a1.r), .obj a2.ch (chO room a2.l false a2.s a2.r), .bag ((A', bs.length, c', 5, by8 bs) :: Gg)] w' := by
 refine calls_GN (args := [pt d 0, .int .i64 0, .slice B bs.length bc]) Try.func8 rfl Try.ntmps8 rfl ?_
 intro Q0 hRet hNor hPan
 have H := h0
 have H : Hp w S [.blk d [.chan (some a0.ch), .chan (some a1.ch), .chan (some a2.ch), .int .i64 (a0.p : Int), .int .i64 (a1.p : Int), .int .i64 (a2.p : Int), .bool false] 52, .obj a0.ch (chO room a0.l false a0.s a0.r), .obj a1.ch (chO room a1.l false a1.s a1.r), .obj a2.ch (chO room a2.l false a2.s a2.r), .bag Gg] w := H
 refine GN.seqK fun K1 hK2 => ?_
 refine G.region ?_
 refine GL.run (j := 1) 1 [0, 1, 2] [(0, pt d 0), (1, .int .i64 0), (2, .slice B bs.length bc)] (by kernel_rfl) rfl ?_
 refine GL.kN rfl hK2 (fun _ _ h => h) ?_
 refine GN.seqK fun K3 hK4 => ?_
 refine G.block ?_
 refine G.seqK fun K5 hK6 => ?_
 refine G.region ?_
 refine GL.run (j := 4) 4 [0, 1, 2, 10, 11] [(0, pt d 0), (1, .int .i64 0), (2, .slice B bs.length bc), (10, .bool false), (11, .int .i64 0)] (by kernel_rfl) rfl ?_
 refine GL.call (j := 5) ((by have h_ := lane_calls 0 w; exact h_)) (by kernel_rfl) rfl (fun e_ w7 hR => ?_)
 obtain ⟨rfl, H9⟩ := hR
 have H8 : Hp w S [.blk d [.chan (some a0.ch), .chan (some a1.ch), .chan (some a2.ch), .int .i64 (a0.p : Int), .int .i64 (a1.p : Int), .int .i64 (a2.p : Int), .bool false] 52, .obj a0.ch (chO room a0.l false a0.s a0.r), .obj a1.ch (chO room a1.l false a1.s a1.r), .obj a2.ch (chO room a2.l false a2.s a2.r), .bag Gg] w7 := H.callNil H9
 refine ⟨_, rfl, [0, 1, 2, 10, 12], [(0, pt d 0), (1, .int .i64 0), (2, .slice B bs.length bc), (10, .bool false), (12, .bool true)], by kernel_rfl, ?_⟩
 refine GL.run (j := 8) 3 [0, 1, 2, 7] [(0, pt d 0), (1, .int .i64 0), (2, .slice B bs.length bc), (7, .bool false)] (by kernel_rfl) rfl ?_
 refine GL.k rfl hK6 (fun _ _ h => h) ?_
 refine G.no rfl ?_
 refine G.seqK fun K10 hK11 => ?_
 refine G.region ?_
 refine GL.run (j := 3) 3 [0, 1, 2, 18] [(0, pt d 0), (1, .int .i64 0), (2, .slice B bs.length bc), (18, pt d 6)] (by kernel_rfl) rfl ?_
 refine GL.sem (j := 4) (H8.ld (o := 6) (ty := 4) (v := .bool false) 0 rfl (by kernel_rfl) rfl) [0, 1, 2, 19] [(0, pt d 0), (1, .int .i64 0), (2, .slice B bs.length bc), (19, .bool false)] (by kernel_rfl) (by kernel_rfl) rfl ?_
 refine GL.run (j := 5) 1 [0, 1, 2, 15] [(0, pt d 0), (1, .int .i64 0), (2, .slice B bs.length bc), (15, .bool false)] (by kernel_rfl) rfl ?_
 refine GL.k rfl hK11 (fun _ _ h => h) ?_
 refine G.no rfl ?_
 refine G.seqK fun K12 hK13 => ?_
 refine G.region ?_
 refine GL.run (j := 4) 4 [0, 1, 2, 20] [(0, pt d 0), (1, .int .i64 0), (2, .slice B bs.length bc), (20, .bool (decide (4096 < (bs.length : Int))))] (by kernel_rfl) rfl ?_
 refine GL.k rfl hK13 (fun _ _ h => h) ?_
 have hb14 : (decide (4096 < (bs.length : Int))) = false := decide_eq_false (by omega)
 rw [hb14]
 refine G.no rfl ?_
 refine G.skipKN hK4 (fun _ _ h => h) ?_
 refine GN.seqK fun K15 hK16 => ?_
 refine G.seqK fun K17 hK18 => ?_
 refine G.region ?_
 refine GL.run (j := 5) 5 [2, 28] [(2, .slice B bs.length bc), (28, pt d 0)] (by kernel_rfl) rfl ?_
 refine GL.sem (j := 6) (H8.ld (o := 0) (ty := 49) (v := .chan (some a0.ch)) 0 rfl (by kernel_rfl) rfl) [2, 29] [(2, .slice B bs.length bc), (29, .chan (some a0.ch))] (by kernel_rfl) (by kernel_rfl) rfl ?_
 refine GL.k rfl hK18 (fun _ _ h => h) ?_
 refine G.region ?_
 refine GL.run (j := 1) 1 [29, 30] [(29, .chan (some a0.ch)), (30, .slice B bs.length bc)] (by kernel_rfl) rfl ?_
 refine GL.call (j := 2) (Clone_calls bs B bs.length bc w7 (hx.hp H8) (rfl) (by omega)) (by kernel_rfl) rfl (fun e_ w23 hR => ?_)
 obtain ⟨A19, c20, rfl, H22⟩ := hR
 have H21 : Hp w S [.blk d [.chan (some a0.ch), .chan (some a1.ch), .chan (some a2.ch), .int .i64 (a0.p : Int), .int .i64 (a1.p : Int), .int .i64 (a2.p : Int), .bool false] 52, .obj a0.ch (chO room a0.l false a0.s a0.r), .obj a1.ch (chO room a1.l false a1.s a1.r), .obj a2.ch (chO room a2.l false a2.s a2.r), .bag Gg, .row A19 bs.length c20 5 1 (by8 bs)] w23 := H8.callNew H22
 refine ⟨_, rfl, [29, 31], [(29, .chan (some a0.ch)), (31, .slice A19 bs.length c20)], by kernel_rfl, ?_⟩
 refine GL.kN rfl hK16 (fun _ _ h => h) ?_
 refine GN.seqS fun K24 hK25 => ?_
 refine GN.sendRoom (z := .slice none 0 0) H21 1 (l := a0.l) (Msg.mk A19 bs c20) rfl rfl rfl rfl (zv _) (by kernel_rfl) (by kernel_rfl) (by omega) [32] [(32, .tuple #[.int .i64 0, .bool false])] (by kernel_rfl) (fun w26 H27 => ?_)
 refine GL.run (j := 3) 2 [34] [(34, .bool true)] (by kernel_rfl) rfl ?_
 refine GL.k rfl hK25 (fun _ _ h => h) ?_
 refine G.block ?_
 refine G.yes rfl ?_
 refine G.seqK fun K28 hK29 => ?_
 refine G.region ?_
 refine GL.run (j := 1) 1 [6] [(6, .int .i64 0)] (by kernel_rfl) rfl ?_
 refine GL.k rfl hK29 (fun _ _ h => h) ?_
 refine G.ret ?_
 intro F_ hF_ hM_
 refine hRet _ _ (bodyPost_1 rfl (RV.tmp rfl) ?_ F_ hF_ hM_)
 have HB := ((Hp.reorder (L' := [.row A19 bs.length c20 5 1 (by8 bs), .bag Gg, .blk d [.chan (some a0.ch), .chan (some a1.ch), .chan (some a2.ch), .int .i64 (a0.p : Int), .int .i64 (a1.p : Int), .int .i64 (a2.p : Int), .bool false] 52, .obj a0.ch (chO room (a0.l ++ [(Msg.mk A19 bs c20)]) false (a0.s + 1) a0.r), .obj a1.ch (chO room a1.l false a1.s a1.r), .obj a2.ch (chO room a2.l false a2.s a2.r)]) H27 (List.Perm.trans (List.Perm.cons _ (List.Perm.cons _ (List.Perm.cons _ (List.Perm.cons _ (List.Perm.swap _ _ _))))) (List.Perm.trans (List.Perm.cons _ (List.Perm.cons _ (List.Perm.cons _ (List.Perm.swap _ _ _)))) (List.Perm.trans (List.Perm.cons _ (List.Perm.cons _ (List.Perm.swap _ _ _))) (List.Perm.trans (List.Perm.cons _ (List.Perm.swap _ _ _)) (List.Perm.trans (List.Perm.swap _ _ _) (List.Perm.cons _ (List.Perm.trans (List.Perm.cons _ (List.Perm.cons _ (List.Perm.cons _ (List.Perm.swap _ _ _)))) (List.Perm.trans (List.Perm.cons _ (List.Perm.cons _ (List.Perm.swap _ _ _))) (List.Perm.trans (List.Perm.cons _ (List.Perm.swap _ _ _)) (List.Perm.trans (List.Perm.swap _ _ _) (List.Perm.refl _))))))))))))).bagIn
 exact ⟨A19, c20, rfl, (Hp.reorder (L' := [.blk d [.chan (some a0.ch), .chan (some a1.ch), .chan (some a2.ch), .int .i64 (a0.p : Int), .int .i64 (a1.p : Int), .int .i64 (a2.p : Int), .bool false] 52, .obj a0.ch (chO room (a0.l ++ [(Msg.mk A19 bs c20)]) false (a0.s + 1) a0.r), .obj a1.ch (chO room a1.l false a1.s a1.r), .obj a2.ch (chO room a2.l false a2.s a2.r), .bag ((A19, bs.length, c20, 5, by8 bs) :: Gg)]) HB (List.Perm.trans (List.Perm.swap _ _ _) (List.Perm.cons _ (List.Perm.trans (List.Perm.swap _ _ _) (List.Perm.cons _ (List.Perm.trans (List.Perm.swap _ _ _) (List.Perm.cons _ (List.Perm.trans (List.Perm.swap _ _ _) (List.Perm.refl _)))))))))⟩
set_option maxHeartbeats 4000000 in
theorem PutFull0_calls (S : List Nat) (d room : Nat) (a0 a1 a2 : Lane) (Gg : List (Option Addr × Nat × Nat × TypeId × List Value)) (B : Option Addr) (bs : List UInt8) (bc : Nat) (w : World) (h0 : Hp w S [.blk d [.chan (some a0.ch), .chan (some a1.ch), .chan (some a2.ch), .int .i64 (a0.p : Int), .int .i64 (a1.p : Int), .int .i64 (a2.p : Int), .bool false] 52, .obj a0.ch (chO room a0.l false a0.s a0.r), .obj a1.ch (chO room a1.l false a1.s a1.r), .obj a2.ch (chO room a2.l false a2.s a2.r), .bag Gg] w) (hx : RdO w S B (by8 bs)) (hr : room ≤ a0.l.length) (hl : bs.length ≤ 4096) : Calls Try.prog 8 #[pt d 0, .int .i64 0, .slice B bs.length bc] w fun e w' => e = .returned (.int .i64 10) ∧ Hp w S [.blk d [.chan (some a0.ch), .chan (some a1.ch), .chan (some a2.ch), .int .i64 (a0.p : Int), .int .i64 (a1.p : Int), .int .i64 (a2.p : Int), .bool false] 52, .obj a0.ch (chO room a0.l false a0.s a0.r), .obj a1.ch (chO room a1.l false a1.s a1.r), .obj a2.ch (chO room a2.l false a2.s a2.r), .bag Gg] w' := by
 refine calls_GN (args := [pt d 0, .int .i64 0, .slice B bs.length bc]) Try.func8 rfl Try.ntmps8 rfl ?_
 intro Q0 hRet hNor hPan
 have H := h0
 have H : Hp w S [.blk d [.chan (some a0.ch), .chan (some a1.ch), .chan (some a2.ch), .int .i64 (a0.p : Int), .int .i64 (a1.p : Int), .int .i64 (a2.p : Int), .bool false] 52, .obj a0.ch (chO room a0.l false a0.s a0.r), .obj a1.ch (chO room a1.l false a1.s a1.r), .obj a2.ch (chO room a2.l false a2.s a2.r), .bag Gg] w := H
 refine GN.seqK fun K1 hK2 => ?_
 refine G.region ?_
 refine GL.run (j := 1) 1 [0, 1, 2] [(0, pt d 0), (1, .int .i64 0), (2, .slice B bs.length bc)] (by kernel_rfl) rfl ?_
 refine GL.kN rfl hK2 (fun _ _ h => h) ?_
 refine GN.seqK fun K3 hK4 => ?_
 refine G.block ?_
 refine G.seqK fun K5 hK6 => ?_
 refine G.region ?_
 refine GL.run (j := 4) 4 [0, 1, 2, 10, 11] [(0, pt d 0), (1, .int .i64 0), (2, .slice B bs.length bc), (10, .bool false), (11, .int .i64 0)] (by kernel_rfl) rfl ?_
 refine GL.call (j := 5) ((by have h_ := lane_calls 0 w; exact h_)) (by kernel_rfl) rfl (fun e_ w7 hR => ?_)
 obtain ⟨rfl, H9⟩ := hR
 have H8 : Hp w S [.blk d [.chan (some a0.ch), .chan (some a1.ch), .chan (some a2.ch), .int .i64 (a0.p : Int), .int .i64 (a1.p : Int), .int .i64 (a2.p : Int), .bool false] 52, .obj a0.ch (chO room a0.l false a0.s a0.r), .obj a1.ch (chO room a1.l false a1.s a1.r), .obj a2.ch (chO room a2.l false a2.s a2.r), .bag Gg] w7 := H.callNil H9
 refine ⟨_, rfl, [0, 1, 2, 10, 12], [(0, pt d 0), (1, .int .i64 0), (2, .slice B bs.length bc), (10, .bool false), (12, .bool true)], by kernel_rfl, ?_⟩
 refine GL.run (j := 8) 3 [0, 1, 2, 7] [(0, pt d 0), (1, .int .i64 0), (2, .slice B bs.length bc), (7, .bool false)] (by kernel_rfl) rfl ?_
 refine GL.k rfl hK6 (fun _ _ h => h) ?_
 refine G.no rfl ?_
 refine G.seqK fun K10 hK11 => ?_
 refine G.region ?_
 refine GL.run (j := 3) 3 [0, 1, 2, 18] [(0, pt d 0), (1, .int .i64 0), (2, .slice B bs.length bc), (18, pt d 6)] (by kernel_rfl) rfl ?_
 refine GL.sem (j := 4) (H8.ld (o := 6) (ty := 4) (v := .bool false) 0 rfl (by kernel_rfl) rfl) [0, 1, 2, 19] [(0, pt d 0), (1, .int .i64 0), (2, .slice B bs.length bc), (19, .bool false)] (by kernel_rfl) (by kernel_rfl) rfl ?_
 refine GL.run (j := 5) 1 [0, 1, 2, 15] [(0, pt d 0), (1, .int .i64 0), (2, .slice B bs.length bc), (15, .bool false)] (by kernel_rfl) rfl ?_
 refine GL.k rfl hK11 (fun _ _ h => h) ?_
 refine G.no rfl ?_
 refine G.seqK fun K12 hK13 => ?_
 refine G.region ?_
 refine GL.run (j := 4) 4 [0, 1, 2, 20] [(0, pt d 0), (1, .int .i64 0), (2, .slice B bs.length bc), (20, .bool (decide (4096 < (bs.length : Int))))] (by kernel_rfl) rfl ?_
 refine GL.k rfl hK13 (fun _ _ h => h) ?_
 have hb14 : (decide (4096 < (bs.length : Int))) = false := decide_eq_false (by omega)
 rw [hb14]
 refine G.no rfl ?_
 refine G.skipKN hK4 (fun _ _ h => h) ?_
 refine GN.seqK fun K15 hK16 => ?_
 refine G.seqK fun K17 hK18 => ?_
 refine G.region ?_
 refine GL.run (j := 5) 5 [2, 28] [(2, .slice B bs.length bc), (28, pt d 0)] (by kernel_rfl) rfl ?_
 refine GL.sem (j := 6) (H8.ld (o := 0) (ty := 49) (v := .chan (some a0.ch)) 0 rfl (by kernel_rfl) rfl) [2, 29] [(2, .slice B bs.length bc), (29, .chan (some a0.ch))] (by kernel_rfl) (by kernel_rfl) rfl ?_
 refine GL.k rfl hK18 (fun _ _ h => h) ?_
 refine G.region ?_
 refine GL.run (j := 1) 1 [29, 30] [(29, .chan (some a0.ch)), (30, .slice B bs.length bc)] (by kernel_rfl) rfl ?_
 refine GL.call (j := 2) (Clone_calls bs B bs.length bc w7 (hx.hp H8) (rfl) (by omega)) (by kernel_rfl) rfl (fun e_ w23 hR => ?_)
 obtain ⟨A19, c20, rfl, H22⟩ := hR
 have H21 : Hp w S [.blk d [.chan (some a0.ch), .chan (some a1.ch), .chan (some a2.ch), .int .i64 (a0.p : Int), .int .i64 (a1.p : Int), .int .i64 (a2.p : Int), .bool false] 52, .obj a0.ch (chO room a0.l false a0.s a0.r), .obj a1.ch (chO room a1.l false a1.s a1.r), .obj a2.ch (chO room a2.l false a2.s a2.r), .bag Gg, .row A19 bs.length c20 5 1 (by8 bs)] w23 := H8.callNew H22
 refine ⟨_, rfl, [29, 31], [(29, .chan (some a0.ch)), (31, .slice A19 bs.length c20)], by kernel_rfl, ?_⟩
 refine GL.kN rfl hK16 (fun _ _ h => h) ?_
 refine GN.seqS fun K24 hK25 => ?_
 refine GN.sendFull (z := .slice none 0 0) (v := .slice A19 bs.length c20) H21 1 (l := a0.l) rfl rfl rfl rfl (zv _) (by kernel_rfl) (by kernel_rfl) (by omega) [32] [(32, .tuple #[.int .i64 (-1), .bool false])] (by kernel_rfl) ?_
 refine GL.run (j := 3) 2 [34] [(34, .bool false)] (by kernel_rfl) rfl ?_
 refine GL.k rfl hK25 (fun _ _ h => h) ?_
 refine G.block ?_
 refine G.no rfl ?_
 refine G.seqK fun K28 hK29 => ?_
 refine G.region ?_
 refine GL.run (j := 1) 1 [6] [(6, .int .i64 10)] (by kernel_rfl) rfl ?_
 refine GL.k rfl hK29 (fun _ _ h => h) ?_
 refine G.ret ?_
 intro F_ hF_ hM_
 refine hRet _ _ (bodyPost_1 rfl (RV.tmp rfl) ?_ F_ hF_ hM_)
 have H30 : Hp w S [.blk d [.chan (some a0.ch), .chan (some a1.ch), .chan (some a2.ch), .int .i64 (a0.p : Int), .int .i64 (a1.p : Int), .int .i64 (a2.p : Int), .bool false] 52, .obj a0.ch (chO room a0.l false a0.s a0.r), .obj a1.ch (chO room a1.l false a1.s a1.r), .obj a2.ch (chO room a2.l false a2.s a2.r), .bag Gg] w23 := H21.sub (List.Sublist.cons_cons _ (List.Sublist.cons_cons _ (List.Sublist.cons_cons _ (List.Sublist.cons_cons _ (List.Sublist.cons_cons _ (List.Sublist.cons _ (List.Sublist.slnil)))))))
 exact ⟨rfl, H30⟩
set_option maxHeartbeats 4000000 in
theorem PutShut0_calls (S : List Nat) (d room : Nat) (a0 a1 a2 : Lane) (Gg : List (Option Addr × Nat × Nat × TypeId × List Value)) (B : Option Addr) (bs : List UInt8) (bc : Nat) (w : World) (h0 : Hp w S [.blk d [.chan (some a0.ch), .chan (some a1.ch), .chan (some a2.ch), .int .i64 (a0.p : Int), .int .i64 (a1.p : Int), .int .i64 (a2.p : Int), .bool true] 52, .obj a0.ch (chO room a0.l true a0.s a0.r), .obj a1.ch (chO room a1.l true a1.s a1.r), .obj a2.ch (chO room a2.l true a2.s a2.r), .bag Gg] w) (hx : RdO w S B (by8 bs))  : Calls Try.prog 8 #[pt d 0, .int .i64 0, .slice B bs.length bc] w fun e w' => e = .returned (.int .i64 20) ∧ Hp w S [.blk d [.chan (some a0.ch), .chan (some a1.ch), .chan (some a2.ch), .int .i64 (a0.p : Int), .int .i64 (a1.p : Int), .int .i64 (a2.p : Int), .bool true] 52, .obj a0.ch (chO room a0.l true a0.s a0.r), .obj a1.ch (chO room a1.l true a1.s a1.r), .obj a2.ch (chO room a2.l true a2.s a2.r), .bag Gg] w' := by
 refine calls_GN (args := [pt d 0, .int .i64 0, .slice B bs.length bc]) Try.func8 rfl Try.ntmps8 rfl ?_
 intro Q0 hRet hNor hPan
 have H := h0
 have H : Hp w S [.blk d [.chan (some a0.ch), .chan (some a1.ch), .chan (some a2.ch), .int .i64 (a0.p : Int), .int .i64 (a1.p : Int), .int .i64 (a2.p : Int), .bool true] 52, .obj a0.ch (chO room a0.l true a0.s a0.r), .obj a1.ch (chO room a1.l true a1.s a1.r), .obj a2.ch (chO room a2.l true a2.s a2.r), .bag Gg] w := H
 refine GN.seqK fun K1 hK2 => ?_
 refine G.region ?_
 refine GL.run (j := 1) 1 [0, 1, 2] [(0, pt d 0), (1, .int .i64 0), (2, .slice B bs.length bc)] (by kernel_rfl) rfl ?_
 refine GL.kN rfl hK2 (fun _ _ h => h) ?_
 refine GN.seqK fun K3 hK4 => ?_
 refine G.block ?_
 refine G.seqK fun K5 hK6 => ?_
 refine G.region ?_
 refine GL.run (j := 4) 4 [0, 1, 2, 10, 11] [(0, pt d 0), (1, .int .i64 0), (2, .slice B bs.length bc), (10, .bool false), (11, .int .i64 0)] (by kernel_rfl) rfl ?_
 refine GL.call (j := 5) ((by have h_ := lane_calls 0 w; exact h_)) (by kernel_rfl) rfl (fun e_ w7 hR => ?_)
 obtain ⟨rfl, H9⟩ := hR
 have H8 : Hp w S [.blk d [.chan (some a0.ch), .chan (some a1.ch), .chan (some a2.ch), .int .i64 (a0.p : Int), .int .i64 (a1.p : Int), .int .i64 (a2.p : Int), .bool true] 52, .obj a0.ch (chO room a0.l true a0.s a0.r), .obj a1.ch (chO room a1.l true a1.s a1.r), .obj a2.ch (chO room a2.l true a2.s a2.r), .bag Gg] w7 := H.callNil H9
 refine ⟨_, rfl, [0, 1, 2, 10, 12], [(0, pt d 0), (1, .int .i64 0), (2, .slice B bs.length bc), (10, .bool false), (12, .bool true)], by kernel_rfl, ?_⟩
 refine GL.run (j := 8) 3 [0, 1, 2, 7] [(0, pt d 0), (1, .int .i64 0), (2, .slice B bs.length bc), (7, .bool false)] (by kernel_rfl) rfl ?_
 refine GL.k rfl hK6 (fun _ _ h => h) ?_
 refine G.no rfl ?_
 refine G.seqK fun K10 hK11 => ?_
 refine G.region ?_
 refine GL.run (j := 3) 3 [0, 1, 2, 18] [(0, pt d 0), (1, .int .i64 0), (2, .slice B bs.length bc), (18, pt d 6)] (by kernel_rfl) rfl ?_
 refine GL.sem (j := 4) (H8.ld (o := 6) (ty := 4) (v := .bool true) 0 rfl (by kernel_rfl) rfl) [0, 1, 2, 19] [(0, pt d 0), (1, .int .i64 0), (2, .slice B bs.length bc), (19, .bool true)] (by kernel_rfl) (by kernel_rfl) rfl ?_
 refine GL.run (j := 5) 1 [0, 1, 2, 15] [(0, pt d 0), (1, .int .i64 0), (2, .slice B bs.length bc), (15, .bool true)] (by kernel_rfl) rfl ?_
 refine GL.k rfl hK11 (fun _ _ h => h) ?_
 refine G.yes rfl ?_
 refine G.seqK fun K12 hK13 => ?_
 refine G.region ?_
 refine GL.run (j := 1) 1 [6] [(6, .int .i64 20)] (by kernel_rfl) rfl ?_
 refine GL.k rfl hK13 (fun _ _ h => h) ?_
 refine G.ret ?_
 intro F_ hF_ hM_
 refine hRet _ _ (bodyPost_1 rfl (RV.tmp rfl) ?_ F_ hF_ hM_)
 exact ⟨rfl, H8⟩
set_option maxHeartbeats 4000000 in
theorem PutLong0_calls (S : List Nat) (d room : Nat) (a0 a1 a2 : Lane) (Gg : List (Option Addr × Nat × Nat × TypeId × List Value)) (B : Option Addr) (bs : List UInt8) (bc : Nat) (w : World) (h0 : Hp w S [.blk d [.chan (some a0.ch), .chan (some a1.ch), .chan (some a2.ch), .int .i64 (a0.p : Int), .int .i64 (a1.p : Int), .int .i64 (a2.p : Int), .bool false] 52, .obj a0.ch (chO room a0.l false a0.s a0.r), .obj a1.ch (chO room a1.l false a1.s a1.r), .obj a2.ch (chO room a2.l false a2.s a2.r), .bag Gg] w) (hx : RdO w S B (by8 bs)) (hl : 4096 < bs.length) : Calls Try.prog 8 #[pt d 0, .int .i64 0, .slice B bs.length bc] w fun e w' => e = .returned (.int .i64 3) ∧ Hp w S [.blk d [.chan (some a0.ch), .chan (some a1.ch), .chan (some a2.ch), .int .i64 (a0.p : Int), .int .i64 (a1.p : Int), .int .i64 (a2.p : Int), .bool false] 52, .obj a0.ch (chO room a0.l false a0.s a0.r), .obj a1.ch (chO room a1.l false a1.s a1.r), .obj a2.ch (chO room a2.l false a2.s a2.r), .bag Gg] w' := by
 refine calls_GN (args := [pt d 0, .int .i64 0, .slice B bs.length bc]) Try.func8 rfl Try.ntmps8 rfl ?_
 intro Q0 hRet hNor hPan
 have H := h0
 have H : Hp w S [.blk d [.chan (some a0.ch), .chan (some a1.ch), .chan (some a2.ch), .int .i64 (a0.p : Int), .int .i64 (a1.p : Int), .int .i64 (a2.p : Int), .bool false] 52, .obj a0.ch (chO room a0.l false a0.s a0.r), .obj a1.ch (chO room a1.l false a1.s a1.r), .obj a2.ch (chO room a2.l false a2.s a2.r), .bag Gg] w := H
 refine GN.seqK fun K1 hK2 => ?_
 refine G.region ?_
 refine GL.run (j := 1) 1 [0, 1, 2] [(0, pt d 0), (1, .int .i64 0), (2, .slice B bs.length bc)] (by kernel_rfl) rfl ?_
 refine GL.kN rfl hK2 (fun _ _ h => h) ?_
 refine GN.seqK fun K3 hK4 => ?_
 refine G.block ?_
 refine G.seqK fun K5 hK6 => ?_
 refine G.region ?_
 refine GL.run (j := 4) 4 [0, 1, 2, 10, 11] [(0, pt d 0), (1, .int .i64 0), (2, .slice B bs.length bc), (10, .bool false), (11, .int .i64 0)] (by kernel_rfl) rfl ?_
 refine GL.call (j := 5) ((by have h_ := lane_calls 0 w; exact h_)) (by kernel_rfl) rfl (fun e_ w7 hR => ?_)
 obtain ⟨rfl, H9⟩ := hR
 have H8 : Hp w S [.blk d [.chan (some a0.ch), .chan (some a1.ch), .chan (some a2.ch), .int .i64 (a0.p : Int), .int .i64 (a1.p : Int), .int .i64 (a2.p : Int), .bool false] 52, .obj a0.ch (chO room a0.l false a0.s a0.r), .obj a1.ch (chO room a1.l false a1.s a1.r), .obj a2.ch (chO room a2.l false a2.s a2.r), .bag Gg] w7 := H.callNil H9
 refine ⟨_, rfl, [0, 1, 2, 10, 12], [(0, pt d 0), (1, .int .i64 0), (2, .slice B bs.length bc), (10, .bool false), (12, .bool true)], by kernel_rfl, ?_⟩
 refine GL.run (j := 8) 3 [0, 1, 2, 7] [(0, pt d 0), (1, .int .i64 0), (2, .slice B bs.length bc), (7, .bool false)] (by kernel_rfl) rfl ?_
 refine GL.k rfl hK6 (fun _ _ h => h) ?_
 refine G.no rfl ?_
 refine G.seqK fun K10 hK11 => ?_
 refine G.region ?_
 refine GL.run (j := 3) 3 [0, 1, 2, 18] [(0, pt d 0), (1, .int .i64 0), (2, .slice B bs.length bc), (18, pt d 6)] (by kernel_rfl) rfl ?_
 refine GL.sem (j := 4) (H8.ld (o := 6) (ty := 4) (v := .bool false) 0 rfl (by kernel_rfl) rfl) [0, 1, 2, 19] [(0, pt d 0), (1, .int .i64 0), (2, .slice B bs.length bc), (19, .bool false)] (by kernel_rfl) (by kernel_rfl) rfl ?_
 refine GL.run (j := 5) 1 [0, 1, 2, 15] [(0, pt d 0), (1, .int .i64 0), (2, .slice B bs.length bc), (15, .bool false)] (by kernel_rfl) rfl ?_
 refine GL.k rfl hK11 (fun _ _ h => h) ?_
 refine G.no rfl ?_
 refine G.seqK fun K12 hK13 => ?_
 refine G.region ?_
 refine GL.run (j := 4) 4 [0, 1, 2, 20] [(0, pt d 0), (1, .int .i64 0), (2, .slice B bs.length bc), (20, .bool (decide (4096 < (bs.length : Int))))] (by kernel_rfl) rfl ?_
 refine GL.k rfl hK13 (fun _ _ h => h) ?_
 have hb14 : (decide (4096 < (bs.length : Int))) = true := decide_eq_true (by omega)
 rw [hb14]
 refine G.yes rfl ?_
 refine G.seqK fun K15 hK16 => ?_
 refine G.region ?_
 refine GL.run (j := 1) 1 [6] [(6, .int .i64 3)] (by kernel_rfl) rfl ?_
 refine GL.k rfl hK16 (fun _ _ h => h) ?_
 refine G.ret ?_
 intro F_ hF_ hM_
 refine hRet _ _ (bodyPost_1 rfl (RV.tmp rfl) ?_ F_ hF_ hM_)
 exact ⟨rfl, H8⟩
set_option maxHeartbeats 4000000 in
theorem PutOk1_calls (S : List Nat) (d room : Nat) (a0 a1 a2 : Lane) (Gg : List (Option Addr × Nat × Nat × TypeId × List Value)) (B : Option Addr) (bs : List UInt8) (bc : Nat) (w : World) (h0 : Hp w S [.blk d [.chan (some a0.ch), .chan (some a1.ch), .chan (some a2.ch), .int .i64 (a0.p : Int), .int .i64 (a1.p : Int), .int .i64 (a2.p : Int), .bool false] 52, .obj a0.ch (chO room a0.l false a0.s a0.r), .obj a1.ch (chO room a1.l false a1.s a1.r), .obj a2.ch (chO room a2.l false a2.s a2.r), .bag Gg] w) (hx : RdO w S B (by8 bs)) (hr : a1.l.length < room) (hl : bs.length ≤ 4096) : Calls Try.prog 8 #[pt d 0, .int .i64 1, .slice B bs.length bc] w fun e w' => ∃ A' c', e = .returned (.int .i64 0) ∧ Hp w S [.blk d [.chan (some a0.ch), .chan (some (a1.put (Msg.mk A' bs c')).ch), .chan (some a2.ch), .int .i64 (a0.p : Int), .int .i64 (((a1.put (Msg.mk A' bs c')).p : Nat) : Int), .int .i64 (a2.p : Int), .bool false] 52, .obj a0.ch (chO room a0.l false a0.s a0.r), .obj (a1.put (Msg.mk A' bs c')).ch (chO room (a1.put (Msg.mk A' bs c')).l false (a1.put (Msg.mk A' bs c')).s (a1.put (Msg.mk A' bs c')).r), .obj a2.ch (chO room a2.l false a2.s a2.r), .bag ((A', bs.length, c', 5, by8 bs) :: Gg)] w' := by
 refine calls_GN (args := [pt d 0, .int .i64 1, .slice B bs.length bc]) Try.func8 rfl Try.ntmps8 rfl ?_
 intro Q0 hRet hNor hPan
 have H := h0
 have H : Hp w S [.blk d [.chan (some a0.ch), .chan (some a1.ch), .chan (some a2.ch), .int .i64 (a0.p : Int), .int .i64 (a1.p : Int), .int .i64 (a2.p : Int), .bool false] 52, .obj a0.ch (chO room a0.l false a0.s a0.r), .obj a1.ch (chO room a1.l false a1.s a1.r), .obj a2.ch (chO room a2.l false a2.s a2.r), .bag Gg] w := H
 refine GN.seqK fun K1 hK2 => ?_
 refine G.region ?_
 refine GL.run (j := 1) 1 [0, 1, 2] [(0, pt d 0), (1, .int .i64 1), (2, .slice B bs.length bc)] (by kernel_rfl) rfl ?_
 refine GL.kN rfl hK2 (fun _ _ h => h) ?_
 refine GN.seqK fun K3 hK4 => ?_
 refine G.block ?_
 refine G.seqK fun K5 hK6 => ?_
 refine G.region ?_
 refine GL.run (j := 4) 4 [0, 1, 2, 10, 11] [(0, pt d 0), (1, .int .i64 1), (2, .slice B bs.length bc), (10, .bool false), (11, .int .i64 1)] (by kernel_rfl) rfl ?_
 refine GL.call (j := 5) ((by have h_ := lane_calls 1 w; exact h_)) (by kernel_rfl) rfl (fun e_ w7 hR => ?_)
 obtain ⟨rfl, H9⟩ := hR
 have H8 : Hp w S [.blk d [.chan (some a0.ch), .chan (some a1.ch), .chan (some a2.ch), .int .i64 (a0.p : Int), .int .i64 (a1.p : Int), .int .i64 (a2.p : Int), .bool false] 52, .obj a0.ch (chO room a0.l false a0.s a0.r), .obj a1.ch (chO room a1.l false a1.s a1.r), .obj a2.ch (chO room a2.l false a2.s a2.r), .bag Gg] w7 := H.callNil H9
 refine ⟨_, rfl, [0, 1, 2, 10, 12], [(0, pt d 0), (1, .int .i64 1), (2, .slice B bs.length bc), (10, .bool false), (12, .bool true)], by kernel_rfl, ?_⟩
 refine GL.run (j := 8) 3 [0, 1, 2, 7] [(0, pt d 0), (1, .int .i64 1), (2, .slice B bs.length bc), (7, .bool false)] (by kernel_rfl) rfl ?_
 refine GL.k rfl hK6 (fun _ _ h => h) ?_
 refine G.no rfl ?_
 refine G.seqK fun K10 hK11 => ?_
 refine G.region ?_
 refine GL.run (j := 3) 3 [0, 1, 2, 18] [(0, pt d 0), (1, .int .i64 1), (2, .slice B bs.length bc), (18, pt d 6)] (by kernel_rfl) rfl ?_
 refine GL.sem (j := 4) (H8.ld (o := 6) (ty := 4) (v := .bool false) 0 rfl (by kernel_rfl) rfl) [0, 1, 2, 19] [(0, pt d 0), (1, .int .i64 1), (2, .slice B bs.length bc), (19, .bool false)] (by kernel_rfl) (by kernel_rfl) rfl ?_
 refine GL.run (j := 5) 1 [0, 1, 2, 15] [(0, pt d 0), (1, .int .i64 1), (2, .slice B bs.length bc), (15, .bool false)] (by kernel_rfl) rfl ?_
 refine GL.k rfl hK11 (fun _ _ h => h) ?_
 refine G.no rfl ?_
 refine G.seqK fun K12 hK13 => ?_
 refine G.region ?_
 refine GL.run (j := 4) 4 [0, 1, 2, 20] [(0, pt d 0), (1, .int .i64 1), (2, .slice B bs.length bc), (20, .bool (decide (4096 < (bs.length : Int))))] (by kernel_rfl) rfl ?_
 refine GL.k rfl hK13 (fun _ _ h => h) ?_
 have hb14 : (decide (4096 < (bs.length : Int))) = false := decide_eq_false (by omega)
 rw [hb14]
 refine G.no rfl ?_
 refine G.skipKN hK4 (fun _ _ h => h) ?_
 refine GN.seqK fun K15 hK16 => ?_
 refine G.seqK fun K17 hK18 => ?_
 refine G.region ?_
 refine GL.run (j := 5) 5 [2, 28] [(2, .slice B bs.length bc), (28, pt d 1)] (by kernel_rfl) rfl ?_
 refine GL.sem (j := 6) (H8.ld (o := 1) (ty := 49) (v := .chan (some a1.ch)) 0 rfl (by kernel_rfl) rfl) [2, 29] [(2, .slice B bs.length bc), (29, .chan (some a1.ch))] (by kernel_rfl) (by kernel_rfl) rfl ?_
 refine GL.k rfl hK18 (fun _ _ h => h) ?_
 refine G.region ?_
 refine GL.run (j := 1) 1 [29, 30] [(29, .chan (some a1.ch)), (30, .slice B bs.length bc)] (by kernel_rfl) rfl ?_
 refine GL.call (j := 2) (Clone_calls bs B bs.length bc w7 (hx.hp H8) (rfl) (by omega)) (by kernel_rfl) rfl (fun e_ w23 hR => ?_)
 obtain ⟨A19, c20, rfl, H22⟩ := hR
 have H21 : Hp w S [.blk d [.chan (some a0.ch), .chan (some a1.ch), .chan (some a2.ch), .int .i64 (a0.p : Int), .int .i64 (a1.p : Int), .int .i64 (a2.p : Int), .bool false] 52, .obj a0.ch (chO room a0.l false a0.s a0.r), .obj a1.ch (chO room a1.l false a1.s a1.r), .obj a2.ch (chO room a2.l false a2.s a2.r), .bag Gg, .row A19 bs.length c20 5 1 (by8 bs)] w23 := H8.callNew H22
 refine ⟨_, rfl, [29, 31], [(29, .chan (some a1.ch)), (31, .slice A19 bs.length c20)], by kernel_rfl, ?_⟩
 refine GL.kN rfl hK16 (fun _ _ h => h) ?_
 refine GN.seqS fun K24 hK25 => ?_
 refine GN.sendRoom (z := .slice none 0 0) H21 2 (l := a1.l) (Msg.mk A19 bs c20) rfl rfl rfl rfl (zv _) (by kernel_rfl) (by kernel_rfl) (by omega) [32] [(32, .tuple #[.int .i64 0, .bool false])] (by kernel_rfl) (fun w26 H27 => ?_)
 refine GL.run (j := 3) 2 [34] [(34, .bool true)] (by kernel_rfl) rfl ?_
 refine GL.k rfl hK25 (fun _ _ h => h) ?_
 refine G.block ?_
 refine G.yes rfl ?_
 refine G.seqK fun K28 hK29 => ?_
 refine G.region ?_
 refine GL.run (j := 1) 1 [6] [(6, .int .i64 0)] (by kernel_rfl) rfl ?_
 refine GL.k rfl hK29 (fun _ _ h => h) ?_
 refine G.ret ?_
 intro F_ hF_ hM_
 refine hRet _ _ (bodyPost_1 rfl (RV.tmp rfl) ?_ F_ hF_ hM_)
 have HB := ((Hp.reorder (L' := [.row A19 bs.length c20 5 1 (by8 bs), .bag Gg, .blk d [.chan (some a0.ch), .chan (some a1.ch), .chan (some a2.ch), .int .i64 (a0.p : Int), .int .i64 (a1.p : Int), .int .i64 (a2.p : Int), .bool false] 52, .obj a0.ch (chO room a0.l false a0.s a0.r), .obj a1.ch (chO room (a1.l ++ [(Msg.mk A19 bs c20)]) false (a1.s + 1) a1.r), .obj a2.ch (chO room a2.l false a2.s a2.r)]) H27 (List.Perm.trans (List.Perm.cons _ (List.Perm.cons _ (List.Perm.cons _ (List.Perm.cons _ (List.Perm.swap _ _ _))))) (List.Perm.trans (List.Perm.cons _ (List.Perm.cons _ (List.Perm.cons _ (List.Perm.swap _ _ _)))) (List.Perm.trans (List.Perm.cons _ (List.Perm.cons _ (List.Perm.swap _ _ _))) (List.Perm.trans (List.Perm.cons _ (List.Perm.swap _ _ _)) (List.Perm.trans (List.Perm.swap _ _ _) (List.Perm.cons _ (List.Perm.trans (List.Perm.cons _ (List.Perm.cons _ (List.Perm.cons _ (List.Perm.swap _ _ _)))) (List.Perm.trans (List.Perm.cons _ (List.Perm.cons _ (List.Perm.swap _ _ _))) (List.Perm.trans (List.Perm.cons _ (List.Perm.swap _ _ _)) (List.Perm.trans (List.Perm.swap _ _ _) (List.Perm.refl _))))))))))))).bagIn
 exact ⟨A19, c20, rfl, (Hp.reorder (L' := [.blk d [.chan (some a0.ch), .chan (some a1.ch), .chan (some a2.ch), .int .i64 (a0.p : Int), .int .i64 (a1.p : Int), .int .i64 (a2.p : Int), .bool false] 52, .obj a0.ch (chO room a0.l false a0.s a0.r), .obj a1.ch (chO room (a1.l ++ [(Msg.mk A19 bs c20)]) false (a1.s + 1) a1.r), .obj a2.ch (chO room a2.l false a2.s a2.r), .bag ((A19, bs.length, c20, 5, by8 bs) :: Gg)]) HB (List.Perm.trans (List.Perm.swap _ _ _) (List.Perm.cons _ (List.Perm.trans (List.Perm.swap _ _ _) (List.Perm.cons _ (List.Perm.trans (List.Perm.swap _ _ _) (List.Perm.cons _ (List.Perm.trans (List.Perm.swap _ _ _) (List.Perm.refl _)))))))))⟩
set_option maxHeartbeats 4000000 in
theorem PutFull1_calls (S : List Nat) (d room : Nat) (a0 a1 a2 : Lane) (Gg : List (Option Addr × Nat × Nat × TypeId × List Value)) (B : Option Addr) (bs : List UInt8) (bc : Nat) (w : World) (h0 : Hp w S [.blk d [.chan (some a0.ch), .chan (some a1.ch), .chan (some a2.ch), .int .i64 (a0.p : Int), .int .i64 (a1.p : Int), .int .i64 (a2.p : Int), .bool false] 52, .obj a0.ch (chO room a0.l false a0.s a0.r), .obj a1.ch (chO room a1.l false a1.s a1.r), .obj a2.ch (chO room a2.l false a2.s a2.r), .bag Gg] w) (hx : RdO w S B (by8 bs)) (hr : room ≤ a1.l.length) (hl : bs.length ≤ 4096) : Calls Try.prog 8 #[pt d 0, .int .i64 1, .slice B bs.length bc] w fun e w' => e = .returned (.int .i64 10) ∧ Hp w S [.blk d [.chan (some a0.ch), .chan (some a1.ch), .chan (some a2.ch), .int .i64 (a0.p : Int), .int .i64 (a1.p : Int), .int .i64 (a2.p : Int), .bool false] 52, .obj a0.ch (chO room a0.l false a0.s a0.r), .obj a1.ch (chO room a1.l false a1.s a1.r), .obj a2.ch (chO room a2.l false a2.s a2.r), .bag Gg] w' := by
 refine calls_GN (args := [pt d 0, .int .i64 1, .slice B bs.length bc]) Try.func8 rfl Try.ntmps8 rfl ?_
 intro Q0 hRet hNor hPan
 have H := h0
 have H : Hp w S [.blk d [.chan (some a0.ch), .chan (some a1.ch), .chan (some a2.ch), .int .i64 (a0.p : Int), .int .i64 (a1.p : Int), .int .i64 (a2.p : Int), .bool false] 52, .obj a0.ch (chO room a0.l false a0.s a0.r), .obj a1.ch (chO room a1.l false a1.s a1.r), .obj a2.ch (chO room a2.l false a2.s a2.r), .bag Gg] w := H
 refine GN.seqK fun K1 hK2 => ?_
 refine G.region ?_
 refine GL.run (j := 1) 1 [0, 1, 2] [(0, pt d 0), (1, .int .i64 1), (2, .slice B bs.length bc)] (by kernel_rfl) rfl ?_
 refine GL.kN rfl hK2 (fun _ _ h => h) ?_
 refine GN.seqK fun K3 hK4 => ?_
 refine G.block ?_
 refine G.seqK fun K5 hK6 => ?_
 refine G.region ?_
 refine GL.run (j := 4) 4 [0, 1, 2, 10, 11] [(0, pt d 0), (1, .int .i64 1), (2, .slice B bs.length bc), (10, .bool false), (11, .int .i64 1)] (by kernel_rfl) rfl ?_
 refine GL.call (j := 5) ((by have h_ := lane_calls 1 w; exact h_)) (by kernel_rfl) rfl (fun e_ w7 hR => ?_)
 obtain ⟨rfl, H9⟩ := hR
 have H8 : Hp w S [.blk d [.chan (some a0.ch), .chan (some a1.ch), .chan (some a2.ch), .int .i64 (a0.p : Int), .int .i64 (a1.p : Int), .int .i64 (a2.p : Int), .bool false] 52, .obj a0.ch (chO room a0.l false a0.s a0.r), .obj a1.ch (chO room a1.l false a1.s a1.r), .obj a2.ch (chO room a2.l false a2.s a2.r), .bag Gg] w7 := H.callNil H9
 refine ⟨_, rfl, [0, 1, 2, 10, 12], [(0, pt d 0), (1, .int .i64 1), (2, .slice B bs.length bc), (10, .bool false), (12, .bool true)], by kernel_rfl, ?_⟩
 refine GL.run (j := 8) 3 [0, 1, 2, 7] [(0, pt d 0), (1, .int .i64 1), (2, .slice B bs.length bc), (7, .bool false)] (by kernel_rfl) rfl ?_
 refine GL.k rfl hK6 (fun _ _ h => h) ?_
 refine G.no rfl ?_
 refine G.seqK fun K10 hK11 => ?_
 refine G.region ?_
 refine GL.run (j := 3) 3 [0, 1, 2, 18] [(0, pt d 0), (1, .int .i64 1), (2, .slice B bs.length bc), (18, pt d 6)] (by kernel_rfl) rfl ?_
 refine GL.sem (j := 4) (H8.ld (o := 6) (ty := 4) (v := .bool false) 0 rfl (by kernel_rfl) rfl) [0, 1, 2, 19] [(0, pt d 0), (1, .int .i64 1), (2, .slice B bs.length bc), (19, .bool false)] (by kernel_rfl) (by kernel_rfl) rfl ?_
 refine GL.run (j := 5) 1 [0, 1, 2, 15] [(0, pt d 0), (1, .int .i64 1), (2, .slice B bs.length bc), (15, .bool false)] (by kernel_rfl) rfl ?_
 refine GL.k rfl hK11 (fun _ _ h => h) ?_
 refine G.no rfl ?_
 refine G.seqK fun K12 hK13 => ?_
 refine G.region ?_
 refine GL.run (j := 4) 4 [0, 1, 2, 20] [(0, pt d 0), (1, .int .i64 1), (2, .slice B bs.length bc), (20, .bool (decide (4096 < (bs.length : Int))))] (by kernel_rfl) rfl ?_
 refine GL.k rfl hK13 (fun _ _ h => h) ?_
 have hb14 : (decide (4096 < (bs.length : Int))) = false := decide_eq_false (by omega)
 rw [hb14]
 refine G.no rfl ?_
 refine G.skipKN hK4 (fun _ _ h => h) ?_
 refine GN.seqK fun K15 hK16 => ?_
 refine G.seqK fun K17 hK18 => ?_
 refine G.region ?_
 refine GL.run (j := 5) 5 [2, 28] [(2, .slice B bs.length bc), (28, pt d 1)] (by kernel_rfl) rfl ?_
 refine GL.sem (j := 6) (H8.ld (o := 1) (ty := 49) (v := .chan (some a1.ch)) 0 rfl (by kernel_rfl) rfl) [2, 29] [(2, .slice B bs.length bc), (29, .chan (some a1.ch))] (by kernel_rfl) (by kernel_rfl) rfl ?_
 refine GL.k rfl hK18 (fun _ _ h => h) ?_
 refine G.region ?_
 refine GL.run (j := 1) 1 [29, 30] [(29, .chan (some a1.ch)), (30, .slice B bs.length bc)] (by kernel_rfl) rfl ?_
 refine GL.call (j := 2) (Clone_calls bs B bs.length bc w7 (hx.hp H8) (rfl) (by omega)) (by kernel_rfl) rfl (fun e_ w23 hR => ?_)
 obtain ⟨A19, c20, rfl, H22⟩ := hR
 have H21 : Hp w S [.blk d [.chan (some a0.ch), .chan (some a1.ch), .chan (some a2.ch), .int .i64 (a0.p : Int), .int .i64 (a1.p : Int), .int .i64 (a2.p : Int), .bool false] 52, .obj a0.ch (chO room a0.l false a0.s a0.r), .obj a1.ch (chO room a1.l false a1.s a1.r), .obj a2.ch (chO room a2.l false a2.s a2.r), .bag Gg, .row A19 bs.length c20 5 1 (by8 bs)] w23 := H8.callNew H22
 refine ⟨_, rfl, [29, 31], [(29, .chan (some a1.ch)), (31, .slice A19 bs.length c20)], by kernel_rfl, ?_⟩
 refine GL.kN rfl hK16 (fun _ _ h => h) ?_
 refine GN.seqS fun K24 hK25 => ?_
 refine GN.sendFull (z := .slice none 0 0) (v := .slice A19 bs.length c20) H21 2 (l := a1.l) rfl rfl rfl rfl (zv _) (by kernel_rfl) (by kernel_rfl) (by omega) [32] [(32, .tuple #[.int .i64 (-1), .bool false])] (by kernel_rfl) ?_
 refine GL.run (j := 3) 2 [34] [(34, .bool false)] (by kernel_rfl) rfl ?_
 refine GL.k rfl hK25 (fun _ _ h => h) ?_
 refine G.block ?_
 refine G.no rfl ?_
 refine G.seqK fun K28 hK29 => ?_
 refine G.region ?_
 refine GL.run (j := 1) 1 [6] [(6, .int .i64 10)] (by kernel_rfl) rfl ?_
 refine GL.k rfl hK29 (fun _ _ h => h) ?_
 refine G.ret ?_
 intro F_ hF_ hM_
 refine hRet _ _ (bodyPost_1 rfl (RV.tmp rfl) ?_ F_ hF_ hM_)
 have H30 : Hp w S [.blk d [.chan (some a0.ch), .chan (some a1.ch), .chan (some a2.ch), .int .i64 (a0.p : Int), .int .i64 (a1.p : Int), .int .i64 (a2.p : Int), .bool false] 52, .obj a0.ch (chO room a0.l false a0.s a0.r), .obj a1.ch (chO room a1.l false a1.s a1.r), .obj a2.ch (chO room a2.l false a2.s a2.r), .bag Gg] w23 := H21.sub (List.Sublist.cons_cons _ (List.Sublist.cons_cons _ (List.Sublist.cons_cons _ (List.Sublist.cons_cons _ (List.Sublist.cons_cons _ (List.Sublist.cons _ (List.Sublist.slnil)))))))
 exact ⟨rfl, H30⟩
set_option maxHeartbeats 4000000 in
theorem PutShut1_calls (S : List Nat) (d room : Nat) (a0 a1 a2 : Lane) (Gg : List (Option Addr × Nat × Nat × TypeId × List Value)) (B : Option Addr) (bs : List UInt8) (bc : Nat) (w : World) (h0 : Hp w S [.blk d [.chan (some a0.ch), .chan (some a1.ch), .chan (some a2.ch), .int .i64 (a0.p : Int), .int .i64 (a1.p : Int), .int .i64 (a2.p : Int), .bool true] 52, .obj a0.ch (chO room a0.l true a0.s a0.r), .obj a1.ch (chO room a1.l true a1.s a1.r), .obj a2.ch (chO room a2.l true a2.s a2.r), .bag Gg] w) (hx : RdO w S B (by8 bs))  : Calls Try.prog 8 #[pt d 0, .int .i64 1, .slice B bs.length bc] w fun e w' => e = .returned (.int .i64 20) ∧ Hp w S [.blk d [.chan (some a0.ch), .chan (some a1.ch), .chan (some a2.ch), .int .i64 (a0.p : Int), .int .i64 (a1.p : Int), .int .i64 (a2.p : Int), .bool true] 52, .obj a0.ch (chO room a0.l true a0.s a0.r), .obj a1.ch (chO room a1.l true a1.s a1.r), .obj a2.ch (chO room a2.l true a2.s a2.r), .bag Gg] w' := by
 refine calls_GN (args := [pt d 0, .int .i64 1, .slice B bs.length bc]) Try.func8 rfl Try.ntmps8 rfl ?_
 intro Q0 hRet hNor hPan
 have H := h0
 have H : Hp w S [.blk d [.chan (some a0.ch), .chan (some a1.ch), .chan (some a2.ch), .int .i64 (a0.p : Int), .int .i64 (a1.p : Int), .int .i64 (a2.p : Int), .bool true] 52, .obj a0.ch (chO room a0.l true a0.s a0.r), .obj a1.ch (chO room a1.l true a1.s a1.r), .obj a2.ch (chO room a2.l true a2.s a2.r), .bag Gg] w := H
 refine GN.seqK fun K1 hK2 => ?_
 refine G.region ?_
 refine GL.run (j := 1) 1 [0, 1, 2] [(0, pt d 0), (1, .int .i64 1), (2, .slice B bs.length bc)] (by kernel_rfl) rfl ?_
 refine GL.kN rfl hK2 (fun _ _ h => h) ?_
 refine GN.seqK fun K3 hK4 => ?_
 refine G.block ?_
 refine G.seqK fun K5 hK6 => ?_
 refine G.region ?_
 refine GL.run (j := 4) 4 [0, 1, 2, 10, 11] [(0, pt d 0), (1, .int .i64 1), (2, .slice B bs.length bc), (10, .bool false), (11, .int .i64 1)] (by kernel_rfl) rfl ?_
 refine GL.call (j := 5) ((by have h_ := lane_calls 1 w; exact h_)) (by kernel_rfl) rfl (fun e_ w7 hR => ?_)
 obtain ⟨rfl, H9⟩ := hR
 have H8 : Hp w S [.blk d [.chan (some a0.ch), .chan (some a1.ch), .chan (some a2.ch), .int .i64 (a0.p : Int), .int .i64 (a1.p : Int), .int .i64 (a2.p : Int), .bool true] 52, .obj a0.ch (chO room a0.l true a0.s a0.r), .obj a1.ch (chO room a1.l true a1.s a1.r), .obj a2.ch (chO room a2.l true a2.s a2.r), .bag Gg] w7 := H.callNil H9
 refine ⟨_, rfl, [0, 1, 2, 10, 12], [(0, pt d 0), (1, .int .i64 1), (2, .slice B bs.length bc), (10, .bool false), (12, .bool true)], by kernel_rfl, ?_⟩
 refine GL.run (j := 8) 3 [0, 1, 2, 7] [(0, pt d 0), (1, .int .i64 1), (2, .slice B bs.length bc), (7, .bool false)] (by kernel_rfl) rfl ?_
 refine GL.k rfl hK6 (fun _ _ h => h) ?_
 refine G.no rfl ?_
 refine G.seqK fun K10 hK11 => ?_
 refine G.region ?_
 refine GL.run (j := 3) 3 [0, 1, 2, 18] [(0, pt d 0), (1, .int .i64 1), (2, .slice B bs.length bc), (18, pt d 6)] (by kernel_rfl) rfl ?_
 refine GL.sem (j := 4) (H8.ld (o := 6) (ty := 4) (v := .bool true) 0 rfl (by kernel_rfl) rfl) [0, 1, 2, 19] [(0, pt d 0), (1, .int .i64 1), (2, .slice B bs.length bc), (19, .bool true)] (by kernel_rfl) (by kernel_rfl) rfl ?_
 refine GL.run (j := 5) 1 [0, 1, 2, 15] [(0, pt d 0), (1, .int .i64 1), (2, .slice B bs.length bc), (15, .bool true)] (by kernel_rfl) rfl ?_
 refine GL.k rfl hK11 (fun _ _ h => h) ?_
 refine G.yes rfl ?_
 refine G.seqK fun K12 hK13 => ?_
 refine G.region ?_
 refine GL.run (j := 1) 1 [6] [(6, .int .i64 20)] (by kernel_rfl) rfl ?_
 refine GL.k rfl hK13 (fun _ _ h => h) ?_
 refine G.ret ?_
 intro F_ hF_ hM_
 refine hRet _ _ (bodyPost_1 rfl (RV.tmp rfl) ?_ F_ hF_ hM_)
 exact ⟨rfl, H8⟩
set_option maxHeartbeats 4000000 in
theorem PutOk2_calls (S : List Nat) (d room : Nat) (a0 a1 a2 : Lane) (Gg : List (Option Addr × Nat × Nat × TypeId × List Value)) (B : Option Addr) (bs : List UInt8) (bc : Nat) (w : World) (h0 : Hp w S [.blk d [.chan (some a0.ch), .chan (some a1.ch), .chan (some a2.ch), .int .i64 (a0.p : Int), .int .i64 (a1.p : Int), .int .i64 (a2.p : Int), .bool false] 52, .obj a0.ch (chO room a0.l false a0.s a0.r), .obj a1.ch (chO room a1.l false a1.s a1.r), .obj a2.ch (chO room a2.l false a2.s a2.r), .bag Gg] w) (hx : RdO w S B (by8 bs)) (hr : a2.l.length < room) (hl : bs.length ≤ 4096) : Calls Try.prog 8 #[pt d 0, .int .i64 2, .slice B bs.length bc] w fun e w' => ∃ A' c', e = .returned (.int .i64 0) ∧ Hp w S [.blk d [.chan (some a0.ch), .chan (some a1.ch), .chan (some (a2.put (Msg.mk A' bs c')).ch), .int .i64 (a0.p : Int), .int .i64 (a1.p : Int), .int .i64 (((a2.put (Msg.mk A' bs c')).p : Nat) : Int), .bool false] 52, .obj a0.ch (chO room a0.l false a0.s a0.r), .obj a1.ch (chO room a1.l false a1.s a1.r), .obj (a2.put (Msg.mk A' bs c')).ch (chO room (a2.put (Msg.mk A' bs c')).l false (a2.put (Msg.mk A' bs c')).s (a2.put (Msg.mk A' bs c')).r), .bag ((A', bs.length, c', 5, by8 bs) :: Gg)] w' := by
 refine calls_GN (args := [pt d 0, .int .i64 2, .slice B bs.length bc]) Try.func8 rfl Try.ntmps8 rfl ?_
 intro Q0 hRet hNor hPan
 have H := h0
 have H : Hp w S [.blk d [.chan (some a0.ch), .chan (some a1.ch), .chan (some a2.ch), .int .i64 (a0.p : Int), .int .i64 (a1.p : Int), .int .i64 (a2.p : Int), .bool false] 52, .obj a0.ch (chO room a0.l false a0.s a0.r), .obj a1.ch (chO room a1.l false a1.s a1.r), .obj a2.ch (chO room a2.l false a2.s a2.r), .bag Gg] w := H
 refine GN.seqK fun K1 hK2 => ?_
 refine G.region ?_
 refine GL.run (j := 1) 1 [0, 1, 2] [(0, pt d 0), (1, .int .i64 2), (2, .slice B bs.length bc)] (by kernel_rfl) rfl ?_
 refine GL.kN rfl hK2 (fun _ _ h => h) ?_
 refine GN.seqK fun K3 hK4 => ?_
 refine G.block ?_
 refine G.seqK fun K5 hK6 => ?_
 refine G.region ?_
 refine GL.run (j := 4) 4 [0, 1, 2, 10, 11] [(0, pt d 0), (1, .int .i64 2), (2, .slice B bs.length bc), (10, .bool false), (11, .int .i64 2)] (by kernel_rfl) rfl ?_
 refine GL.call (j := 5) ((by have h_ := lane_calls 2 w; exact h_)) (by kernel_rfl) rfl (fun e_ w7 hR => ?_)
 obtain ⟨rfl, H9⟩ := hR
 have H8 : Hp w S [.blk d [.chan (some a0.ch), .chan (some a1.ch), .chan (some a2.ch), .int .i64 (a0.p : Int), .int .i64 (a1.p : Int), .int .i64 (a2.p : Int), .bool false] 52, .obj a0.ch (chO room a0.l false a0.s a0.r), .obj a1.ch (chO room a1.l false a1.s a1.r), .obj a2.ch (chO room a2.l false a2.s a2.r), .bag Gg] w7 := H.callNil H9
 refine ⟨_, rfl, [0, 1, 2, 10, 12], [(0, pt d 0), (1, .int .i64 2), (2, .slice B bs.length bc), (10, .bool false), (12, .bool true)], by kernel_rfl, ?_⟩
 refine GL.run (j := 8) 3 [0, 1, 2, 7] [(0, pt d 0), (1, .int .i64 2), (2, .slice B bs.length bc), (7, .bool false)] (by kernel_rfl) rfl ?_
 refine GL.k rfl hK6 (fun _ _ h => h) ?_
 refine G.no rfl ?_
 refine G.seqK fun K10 hK11 => ?_
 refine G.region ?_
 refine GL.run (j := 3) 3 [0, 1, 2, 18] [(0, pt d 0), (1, .int .i64 2), (2, .slice B bs.length bc), (18, pt d 6)] (by kernel_rfl) rfl ?_
 refine GL.sem (j := 4) (H8.ld (o := 6) (ty := 4) (v := .bool false) 0 rfl (by kernel_rfl) rfl) [0, 1, 2, 19] [(0, pt d 0), (1, .int .i64 2), (2, .slice B bs.length bc), (19, .bool false)] (by kernel_rfl) (by kernel_rfl) rfl ?_
 refine GL.run (j := 5) 1 [0, 1, 2, 15] [(0, pt d 0), (1, .int .i64 2), (2, .slice B bs.length bc), (15, .bool false)] (by kernel_rfl) rfl ?_
 refine GL.k rfl hK11 (fun _ _ h => h) ?_
 refine G.no rfl ?_
 refine G.seqK fun K12 hK13 => ?_
 refine G.region ?_
 refine GL.run (j := 4) 4 [0, 1, 2, 20] [(0, pt d 0), (1, .int .i64 2), (2, .slice B bs.length bc), (20, .bool (decide (4096 < (bs.length : Int))))] (by kernel_rfl) rfl ?_
 refine GL.k rfl hK13 (fun _ _ h => h) ?_
 have hb14 : (decide (4096 < (bs.length : Int))) = false := decide_eq_false (by omega)
 rw [hb14]
 refine G.no rfl ?_
 refine G.skipKN hK4 (fun _ _ h => h) ?_
 refine GN.seqK fun K15 hK16 => ?_
 refine G.seqK fun K17 hK18 => ?_
 refine G.region ?_
 refine GL.run (j := 5) 5 [2, 28] [(2, .slice B bs.length bc), (28, pt d 2)] (by kernel_rfl) rfl ?_
 refine GL.sem (j := 6) (H8.ld (o := 2) (ty := 49) (v := .chan (some a2.ch)) 0 rfl (by kernel_rfl) rfl) [2, 29] [(2, .slice B bs.length bc), (29, .chan (some a2.ch))] (by kernel_rfl) (by kernel_rfl) rfl ?_
 refine GL.k rfl hK18 (fun _ _ h => h) ?_
 refine G.region ?_
 refine GL.run (j := 1) 1 [29, 30] [(29, .chan (some a2.ch)), (30, .slice B bs.length bc)] (by kernel_rfl) rfl ?_
 refine GL.call (j := 2) (Clone_calls bs B bs.length bc w7 (hx.hp H8) (rfl) (by omega)) (by kernel_rfl) rfl (fun e_ w23 hR => ?_)
 obtain ⟨A19, c20, rfl, H22⟩ := hR
 have H21 : Hp w S [.blk d [.chan (some a0.ch), .chan (some a1.ch), .chan (some a2.ch), .int .i64 (a0.p : Int), .int .i64 (a1.p : Int), .int .i64 (a2.p : Int), .bool false] 52, .obj a0.ch (chO room a0.l false a0.s a0.r), .obj a1.ch (chO room a1.l false a1.s a1.r), .obj a2.ch (chO room a2.l false a2.s a2.r), .bag Gg, .row A19 bs.length c20 5 1 (by8 bs)] w23 := H8.callNew H22
 refine ⟨_, rfl, [29, 31], [(29, .chan (some a2.ch)), (31, .slice A19 bs.length c20)], by kernel_rfl, ?_⟩
 refine GL.kN rfl hK16 (fun _ _ h => h) ?_
 refine GN.seqS fun K24 hK25 => ?_
 refine GN.sendRoom (z := .slice none 0 0) H21 3 (l := a2.l) (Msg.mk A19 bs c20) rfl rfl rfl rfl (zv _) (by kernel_rfl) (by kernel_rfl) (by omega) [32] [(32, .tuple #[.int .i64 0, .bool false])] (by kernel_rfl) (fun w26 H27 => ?_)
 refine GL.run (j := 3) 2 [34] [(34, .bool true)] (by kernel_rfl) rfl ?_
 refine GL.k rfl hK25 (fun _ _ h => h) ?_
 refine G.block ?_
 refine G.yes rfl ?_
 refine G.seqK fun K28 hK29 => ?_
 refine G.region ?_
 refine GL.run (j := 1) 1 [6] [(6, .int .i64 0)] (by kernel_rfl) rfl ?_
 refine GL.k rfl hK29 (fun _ _ h => h) ?_
 refine G.ret ?_
 intro F_ hF_ hM_
 refine hRet _ _ (bodyPost_1 rfl (RV.tmp rfl) ?_ F_ hF_ hM_)
 have HB := ((Hp.reorder (L' := [.row A19 bs.length c20 5 1 (by8 bs), .bag Gg, .blk d [.chan (some a0.ch), .chan (some a1.ch), .chan (some a2.ch), .int .i64 (a0.p : Int), .int .i64 (a1.p : Int), .int .i64 (a2.p : Int), .bool false] 52, .obj a0.ch (chO room a0.l false a0.s a0.r), .obj a1.ch (chO room a1.l false a1.s a1.r), .obj a2.ch (chO room (a2.l ++ [(Msg.mk A19 bs c20)]) false (a2.s + 1) a2.r)]) H27 (List.Perm.trans (List.Perm.cons _ (List.Perm.cons _ (List.Perm.cons _ (List.Perm.cons _ (List.Perm.swap _ _ _))))) (List.Perm.trans (List.Perm.cons _ (List.Perm.cons _ (List.Perm.cons _ (List.Perm.swap _ _ _)))) (List.Perm.trans (List.Perm.cons _ (List.Perm.cons _ (List.Perm.swap _ _ _))) (List.Perm.trans (List.Perm.cons _ (List.Perm.swap _ _ _)) (List.Perm.trans (List.Perm.swap _ _ _) (List.Perm.cons _ (List.Perm.trans (List.Perm.cons _ (List.Perm.cons _ (List.Perm.cons _ (List.Perm.swap _ _ _)))) (List.Perm.trans (List.Perm.cons _ (List.Perm.cons _ (List.Perm.swap _ _ _))) (List.Perm.trans (List.Perm.cons _ (List.Perm.swap _ _ _)) (List.Perm.trans (List.Perm.swap _ _ _) (List.Perm.refl _))))))))))))).bagIn
 exact ⟨A19, c20, rfl, (Hp.reorder (L' := [.blk d [.chan (some a0.ch), .chan (some a1.ch), .chan (some a2.ch), .int .i64 (a0.p : Int), .int .i64 (a1.p : Int), .int .i64 (a2.p : Int), .bool false] 52, .obj a0.ch (chO room a0.l false a0.s a0.r), .obj a1.ch (chO room a1.l false a1.s a1.r), .obj a2.ch (chO room (a2.l ++ [(Msg.mk A19 bs c20)]) false (a2.s + 1) a2.r), .bag ((A19, bs.length, c20, 5, by8 bs) :: Gg)]) HB (List.Perm.trans (List.Perm.swap _ _ _) (List.Perm.cons _ (List.Perm.trans (List.Perm.swap _ _ _) (List.Perm.cons _ (List.Perm.trans (List.Perm.swap _ _ _) (List.Perm.cons _ (List.Perm.trans (List.Perm.swap _ _ _) (List.Perm.refl _)))))))))⟩
set_option maxHeartbeats 4000000 in
theorem PutFull2_calls (S : List Nat) (d room : Nat) (a0 a1 a2 : Lane) (Gg : List (Option Addr × Nat × Nat × TypeId × List Value)) (B : Option Addr) (bs : List UInt8) (bc : Nat) (w : World) (h0 : Hp w S [.blk d [.chan (some a0.ch), .chan (some a1.ch), .chan (some a2.ch), .int .i64 (a0.p : Int), .int .i64 (a1.p : Int), .int .i64 (a2.p : Int), .bool false] 52, .obj a0.ch (chO room a0.l false a0.s a0.r), .obj a1.ch (chO room a1.l false a1.s a1.r), .obj a2.ch (chO room a2.l false a2.s a2.r), .bag Gg] w) (hx : RdO w S B (by8 bs)) (hr : room ≤ a2.l.length) (hl : bs.length ≤ 4096) : Calls Try.prog 8 #[pt d 0, .int .i64 2, .slice B bs.length bc] w fun e w' => e = .returned (.int .i64 10) ∧ Hp w S [.blk d [.chan (some a0.ch), .chan (some a1.ch), .chan (some a2.ch), .int .i64 (a0.p : Int), .int .i64 (a1.p : Int), .int .i64 (a2.p : Int), .bool false] 52, .obj a0.ch (chO room a0.l false a0.s a0.r), .obj a1.ch (chO room a1.l false a1.s a1.r), .obj a2.ch (chO room a2.l false a2.s a2.r), .bag Gg] w' := by
 refine calls_GN (args := [pt d 0, .int .i64 2, .slice B bs.length bc]) Try.func8 rfl Try.ntmps8 rfl ?_
 intro Q0 hRet hNor hPan
 have H := h0
 have H : Hp w S [.blk d [.chan (some a0.ch), .chan (some a1.ch), .chan (some a2.ch), .int .i64 (a0.p : Int), .int .i64 (a1.p : Int), .int .i64 (a2.p : Int), .bool false] 52, .obj a0.ch (chO room a0.l false a0.s a0.r), .obj a1.ch (chO room a1.l false a1.s a1.r), .obj a2.ch (chO room a2.l false a2.s a2.r), .bag Gg] w := H
 refine GN.seqK fun K1 hK2 => ?_
 refine G.region ?_
 refine GL.run (j := 1) 1 [0, 1, 2] [(0, pt d 0), (1, .int .i64 2), (2, .slice B bs.length bc)] (by kernel_rfl) rfl ?_
 refine GL.kN rfl hK2 (fun _ _ h => h) ?_
 refine GN.seqK fun K3 hK4 => ?_
 refine G.block ?_
 refine G.seqK fun K5 hK6 => ?_
 refine G.region ?_
 refine GL.run (j := 4) 4 [0, 1, 2, 10, 11] [(0, pt d 0), (1, .int .i64 2), (2, .slice B bs.length bc), (10, .bool false), (11, .int .i64 2)] (by kernel_rfl) rfl ?_
 refine GL.call (j := 5) ((by have h_ := lane_calls 2 w; exact h_)) (by kernel_rfl) rfl (fun e_ w7 hR => ?_)
 obtain ⟨rfl, H9⟩ := hR
 have H8 : Hp w S [.blk d [.chan (some a0.ch), .chan (some a1.ch), .chan (some a2.ch), .int .i64 (a0.p : Int), .int .i64 (a1.p : Int), .int .i64 (a2.p : Int), .bool false] 52, .obj a0.ch (chO room a0.l false a0.s a0.r), .obj a1.ch (chO room a1.l false a1.s a1.r), .obj a2.ch (chO room a2.l false a2.s a2.r), .bag Gg] w7 := H.callNil H9
 refine ⟨_, rfl, [0, 1, 2, 10, 12], [(0, pt d 0), (1, .int .i64 2), (2, .slice B bs.length bc), (10, .bool false), (12, .bool true)], by kernel_rfl, ?_⟩
 refine GL.run (j := 8) 3 [0, 1, 2, 7] [(0, pt d 0), (1, .int .i64 2), (2, .slice B bs.length bc), (7, .bool false)] (by kernel_rfl) rfl ?_
 refine GL.k rfl hK6 (fun _ _ h => h) ?_
 refine G.no rfl ?_
 refine G.seqK fun K10 hK11 => ?_
 refine G.region ?_
 refine GL.run (j := 3) 3 [0, 1, 2, 18] [(0, pt d 0), (1, .int .i64 2), (2, .slice B bs.length bc), (18, pt d 6)] (by kernel_rfl) rfl ?_
 refine GL.sem (j := 4) (H8.ld (o := 6) (ty := 4) (v := .bool false) 0 rfl (by kernel_rfl) rfl) [0, 1, 2, 19] [(0, pt d 0), (1, .int .i64 2), (2, .slice B bs.length bc), (19, .bool false)] (by kernel_rfl) (by kernel_rfl) rfl ?_
 refine GL.run (j := 5) 1 [0, 1, 2, 15] [(0, pt d 0), (1, .int .i64 2), (2, .slice B bs.length bc), (15, .bool false)] (by kernel_rfl) rfl ?_
 refine GL.k rfl hK11 (fun _ _ h => h) ?_
 refine G.no rfl ?_
 refine G.seqK fun K12 hK13 => ?_
 refine G.region ?_
 refine GL.run (j := 4) 4 [0, 1, 2, 20] [(0, pt d 0), (1, .int .i64 2), (2, .slice B bs.length bc), (20, .bool (decide (4096 < (bs.length : Int))))] (by kernel_rfl) rfl ?_
 refine GL.k rfl hK13 (fun _ _ h => h) ?_
 have hb14 : (decide (4096 < (bs.length : Int))) = false := decide_eq_false (by omega)
 rw [hb14]
 refine G.no rfl ?_
 refine G.skipKN hK4 (fun _ _ h => h) ?_
 refine GN.seqK fun K15 hK16 => ?_
 refine G.seqK fun K17 hK18 => ?_
 refine G.region ?_
 refine GL.run (j := 5) 5 [2, 28] [(2, .slice B bs.length bc), (28, pt d 2)] (by kernel_rfl) rfl ?_
 refine GL.sem (j := 6) (H8.ld (o := 2) (ty := 49) (v := .chan (some a2.ch)) 0 rfl (by kernel_rfl) rfl) [2, 29] [(2, .slice B bs.length bc), (29, .chan (some a2.ch))] (by kernel_rfl) (by kernel_rfl) rfl ?_
 refine GL.k rfl hK18 (fun _ _ h => h) ?_
 refine G.region ?_
 refine GL.run (j := 1) 1 [29, 30] [(29, .chan (some a2.ch)), (30, .slice B bs.length bc)] (by kernel_rfl) rfl ?_
 refine GL.call (j := 2) (Clone_calls bs B bs.length bc w7 (hx.hp H8) (rfl) (by omega)) (by kernel_rfl) rfl (fun e_ w23 hR => ?_)
 obtain ⟨A19, c20, rfl, H22⟩ := hR
 have H21 : Hp w S [.blk d [.chan (some a0.ch), .chan (some a1.ch), .chan (some a2.ch), .int .i64 (a0.p : Int), .int .i64 (a1.p : Int), .int .i64 (a2.p : Int), .bool false] 52, .obj a0.ch (chO room a0.l false a0.s a0.r), .obj a1.ch (chO room a1.l false a1.s a1.r), .obj a2.ch (chO room a2.l false a2.s a2.r), .bag Gg, .row A19 bs.length c20 5 1 (by8 bs)] w23 := H8.callNew H22
 refine ⟨_, rfl, [29, 31], [(29, .chan (some a2.ch)), (31, .slice A19 bs.length c20)], by kernel_rfl, ?_⟩
 refine GL.kN rfl hK16 (fun _ _ h => h) ?_
 refine GN.seqS fun K24 hK25 => ?_
 refine GN.sendFull (z := .slice none 0 0) (v := .slice A19 bs.length c20) H21 3 (l := a2.l) rfl rfl rfl rfl (zv _) (by kernel_rfl) (by kernel_rfl) (by omega) [32] [(32, .tuple #[.int .i64 (-1), .bool false])] (by kernel_rfl) ?_
 refine GL.run (j := 3) 2 [34] [(34, .bool false)] (by kernel_rfl) rfl ?_
 refine GL.k rfl hK25 (fun _ _ h => h) ?_
 refine G.block ?_
 refine G.no rfl ?_
 refine G.seqK fun K28 hK29 => ?_
 refine G.region ?_
 refine GL.run (j := 1) 1 [6] [(6, .int .i64 10)] (by kernel_rfl) rfl ?_
 refine GL.k rfl hK29 (fun _ _ h => h) ?_
 refine G.ret ?_
 intro F_ hF_ hM_
 refine hRet _ _ (bodyPost_1 rfl (RV.tmp rfl) ?_ F_ hF_ hM_)
 have H30 : Hp w S [.blk d [.chan (some a0.ch), .chan (some a1.ch), .chan (some a2.ch), .int .i64 (a0.p : Int), .int .i64 (a1.p : Int), .int .i64 (a2.p : Int), .bool false] 52, .obj a0.ch (chO room a0.l false a0.s a0.r), .obj a1.ch (chO room a1.l false a1.s a1.r), .obj a2.ch (chO room a2.l false a2.s a2.r), .bag Gg] w23 := H21.sub (List.Sublist.cons_cons _ (List.Sublist.cons_cons _ (List.Sublist.cons_cons _ (List.Sublist.cons_cons _ (List.Sublist.cons_cons _ (List.Sublist.cons _ (List.Sublist.slnil)))))))
 exact ⟨rfl, H30⟩
set_option maxHeartbeats 4000000 in
theorem PutShut2_calls (S : List Nat) (d room : Nat) (a0 a1 a2 : Lane) (Gg : List (Option Addr × Nat × Nat × TypeId × List Value)) (B : Option Addr) (bs : List UInt8) (bc : Nat) (w : World) (h0 : Hp w S [.blk d [.chan (some a0.ch), .chan (some a1.ch), .chan (some a2.ch), .int .i64 (a0.p : Int), .int .i64 (a1.p : Int), .int .i64 (a2.p : Int), .bool true] 52, .obj a0.ch (chO room a0.l true a0.s a0.r), .obj a1.ch (chO room a1.l true a1.s a1.r), .obj a2.ch (chO room a2.l true a2.s a2.r), .bag Gg] w) (hx : RdO w S B (by8 bs))  : Calls Try.prog 8 #[pt d 0, .int .i64 2, .slice B bs.length bc] w fun e w' => e = .returned (.int .i64 20) ∧ Hp w S [.blk d [.chan (some a0.ch), .chan (some a1.ch), .chan (some a2.ch), .int .i64 (a0.p : Int), .int .i64 (a1.p : Int), .int .i64 (a2.p : Int), .bool true] 52, .obj a0.ch (chO room a0.l true a0.s a0.r), .obj a1.ch (chO room a1.l true a1.s a1.r), .obj a2.ch (chO room a2.l true a2.s a2.r), .bag Gg] w' := by
 refine calls_GN (args := [pt d 0, .int .i64 2, .slice B bs.length bc]) Try.func8 rfl Try.ntmps8 rfl ?_
 intro Q0 hRet hNor hPan
 have H := h0
 have H : Hp w S [.blk d [.chan (some a0.ch), .chan (some a1.ch), .chan (some a2.ch), .int .i64 (a0.p : Int), .int .i64 (a1.p : Int), .int .i64 (a2.p : Int), .bool true] 52, .obj a0.ch (chO room a0.l true a0.s a0.r), .obj a1.ch (chO room a1.l true a1.s a1.r), .obj a2.ch (chO room a2.l true a2.s a2.r), .bag Gg] w := H
 refine GN.seqK fun K1 hK2 => ?_
 refine G.region ?_
 refine GL.run (j := 1) 1 [0, 1, 2] [(0, pt d 0), (1, .int .i64 2), (2, .slice B bs.length bc)] (by kernel_rfl) rfl ?_
 refine GL.kN rfl hK2 (fun _ _ h => h) ?_
 refine GN.seqK fun K3 hK4 => ?_
 refine G.block ?_
 refine G.seqK fun K5 hK6 => ?_
 refine G.region ?_
 refine GL.run (j := 4) 4 [0, 1, 2, 10, 11] [(0, pt d 0), (1, .int .i64 2), (2, .slice B bs.length bc), (10, .bool false), (11, .int .i64 2)] (by kernel_rfl) rfl ?_
 refine GL.call (j := 5) ((by have h_ := lane_calls 2 w; exact h_)) (by kernel_rfl) rfl (fun e_ w7 hR => ?_)
 obtain ⟨rfl, H9⟩ := hR
 have H8 : Hp w S [.blk d [.chan (some a0.ch), .chan (some a1.ch), .chan (some a2.ch), .int .i64 (a0.p : Int), .int .i64 (a1.p : Int), .int .i64 (a2.p : Int), .bool true] 52, .obj a0.ch (chO room a0.l true a0.s a0.r), .obj a1.ch (chO room a1.l true a1.s a1.r), .obj a2.ch (chO room a2.l true a2.s a2.r), .bag Gg] w7 := H.callNil H9
 refine ⟨_, rfl, [0, 1, 2, 10, 12], [(0, pt d 0), (1, .int .i64 2), (2, .slice B bs.length bc), (10, .bool false), (12, .bool true)], by kernel_rfl, ?_⟩
 refine GL.run (j := 8) 3 [0, 1, 2, 7] [(0, pt d 0), (1, .int .i64 2), (2, .slice B bs.length bc), (7, .bool false)] (by kernel_rfl) rfl ?_
 refine GL.k rfl hK6 (fun _ _ h => h) ?_
 refine G.no rfl ?_
 refine G.seqK fun K10 hK11 => ?_
 refine G.region ?_
 refine GL.run (j := 3) 3 [0, 1, 2, 18] [(0, pt d 0), (1, .int .i64 2), (2, .slice B bs.length bc), (18, pt d 6)] (by kernel_rfl) rfl ?_
 refine GL.sem (j := 4) (H8.ld (o := 6) (ty := 4) (v := .bool true) 0 rfl (by kernel_rfl) rfl) [0, 1, 2, 19] [(0, pt d 0), (1, .int .i64 2), (2, .slice B bs.length bc), (19, .bool true)] (by kernel_rfl) (by kernel_rfl) rfl ?_
 refine GL.run (j := 5) 1 [0, 1, 2, 15] [(0, pt d 0), (1, .int .i64 2), (2, .slice B bs.length bc), (15, .bool true)] (by kernel_rfl) rfl ?_
 refine GL.k rfl hK11 (fun _ _ h => h) ?_
 refine G.yes rfl ?_
 refine G.seqK fun K12 hK13 => ?_
 refine G.region ?_
 refine GL.run (j := 1) 1 [6] [(6, .int .i64 20)] (by kernel_rfl) rfl ?_
 refine GL.k rfl hK13 (fun _ _ h => h) ?_
 refine G.ret ?_
 intro F_ hF_ hM_
 refine hRet _ _ (bodyPost_1 rfl (RV.tmp rfl) ?_ F_ hF_ hM_)
 exact ⟨rfl, H8⟩
theorem PutBad_calls (d : Nat) (z : Int) (B : Option Addr) (n bc : Nat) (w : World) (hz : ¬ (0 ≤ z ∧ z < 3)) : Calls Try.prog 8 #[pt d 0, .int .i64 z, .slice B n bc] w fun e w' => e = .returned (.int .i64 1) ∧ Hp w [] [] w' := by
 refine calls_GN (args := [pt d 0, .int .i64 z, .slice B n bc]) Try.func8 rfl Try.ntmps8 rfl ?_
 intro Q0 hRet hNor hPan
 have H := Hp.start w
 have H : Hp w [] [] w := H
 refine GN.seqK fun K1 hK2 => ?_
 refine G.region ?_
 refine GL.run (j := 1) 1 [0, 1, 2] [(0, pt d 0), (1, .int .i64 z), (2, .slice B n bc)] (by kernel_rfl) rfl ?_
 refine GL.kN rfl hK2 (fun _ _ h => h) ?_
 refine GN.seqK fun K3 hK4 => ?_
 refine G.block ?_
 refine G.seqK fun K5 hK6 => ?_
 refine G.region ?_
 refine GL.run (j := 4) 4 [0, 1, 2, 10, 11] [(0, pt d 0), (1, .int .i64 z), (2, .slice B n bc), (10, .bool false), (11, .int .i64 z)] (by kernel_rfl) rfl ?_
 refine GL.call (j := 5) (lane_calls z w) (by kernel_rfl) rfl (fun e_ w7 hR => ?_)
 obtain ⟨rfl, H9⟩ := hR
 have H8 : Hp w [] [] w7 := H.callNil H9
 refine ⟨_, rfl, [0, 1, 2, 10, 12], [(0, pt d 0), (1, .int .i64 z), (2, .slice B n bc), (10, .bool false), (12, .bool (decide (0 ≤ z ∧ z < 3)))], by kernel_rfl, ?_⟩
 refine GL.run (j := 8) 3 [0, 1, 2, 7] [(0, pt d 0), (1, .int .i64 z), (2, .slice B n bc), (7, .bool (!(decide (0 ≤ z ∧ z < 3))))] (by kernel_rfl) rfl ?_
 refine GL.k rfl hK6 (fun _ _ h => h) ?_
 have hb10 : (!(decide (0 ≤ z ∧ z < 3))) = true := by rw [show (decide (0 ≤ z ∧ z < 3)) = false from decide_eq_false hz]; rfl
 rw [hb10]
 refine G.yes rfl ?_
 refine G.seqK fun K11 hK12 => ?_
 refine G.region ?_
 refine GL.run (j := 1) 1 [6] [(6, .int .i64 1)] (by kernel_rfl) rfl ?_
 refine GL.k rfl hK12 (fun _ _ h => h) ?_
 refine G.ret ?_
 intro F_ hF_ hM_
 refine hRet _ _ (bodyPost_1 rfl (RV.tmp rfl) ?_ F_ hF_ hM_)
 exact ⟨rfl, H8.sub (List.nil_sublist _)⟩
end Go.Proofs.Ythcdelpdgkoioaa
