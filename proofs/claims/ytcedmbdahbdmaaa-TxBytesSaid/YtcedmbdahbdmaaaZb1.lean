/- Part 1 of what txBytes_proved stands on. -/
import Derived.Test.YtcedmbdahbdmaaaRows
import Derived.WalkKit
import Derived.Deep.Quiet
import Derived.KernelRfl
import Derived.Maps.AppendAt
import Derived.Laws.CopyRow
import Derived.StillTail
import Derived.OrdersHeld
import Derived.Laws.BytesString
import Derived.Lib.ConvBytes
import Derived.ChangeKeysEq
import Derived.Laws.StructEq
import Derived.ProofKit
import Derived.OpenShut
import Derived.Laws.Externs
import Derived.Lib.Mul64
import Derived.Lib.Zigzag
import Derived.Deep.Slices
import Derived.RangeFuncNested
import Derived.Shelf.Abstract
import Derived.LoopNIn
import Derived.DeepKeys
import Derived.Laws.BitsAllLaws
import Derived.Lib.AppendStr
import Derived.ShutString
import Derived.ChangeOld
import Derived.Below
set_option linter.unusedVariables false
namespace Go.Proofs.Ytcedmbdahbdmaaa
open Go.RowKit
abbrev FM := List (Nat × Value)
def Fits (F : Array Value) (M : FM) : Prop := ∀ p ∈ M, F[p.1]? = some p.2
def lk : FM → Nat → Option Value
 | [], _ => none
 | (k, v) :: r, t => if k == t then some v else lk r t
def del : FM → Nat → FM
 | [], _ => []
 | (k, v) :: r, t => if k == t then del r t else (k, v) :: del r t
def pick : List Nat → FM → Option FM
 | [], _ => some []
 | t :: ts, M => match lk M t, pick ts M with
   | some v, some r => some ((t, v) :: r)
   | _, _ => none
theorem Fits.lk {F : Array Value} {M : FM} (h : Fits F M) {t : Nat} {v : Value} (hv : lk M t = some v) : F[t]? = some v := by
 induction M with
 | nil => simp [Go.Proofs.Ytcedmbdahbdmaaa.lk] at hv
 | cons p r ih =>
   obtain ⟨k, u⟩ := p
   unfold Go.Proofs.Ytcedmbdahbdmaaa.lk at hv
   split at hv
   · rename_i hk
     have hk : k = t := by simpa using hk
     subst hk
     injection hv with hv
     subst hv
     exact h (k, u) (by simp)
   · exact ih (fun p hp => h p (by simp [hp])) hv
theorem mem_del {M : FM} {t : Nat} {p : Nat × Value} (h : p ∈ del M t) : p ∈ M ∧ p.1 ≠ t := by
 induction M with
 | nil => simp [del] at h
 | cons q r ih =>
   obtain ⟨k, u⟩ := q
   unfold del at h
   split at h
   · have := ih h
     exact ⟨by simp [this.1], this.2⟩
   · rename_i hk
     have hk : k ≠ t := by simpa using hk
     rcases List.mem_cons.1 h with rfl | h
     · exact ⟨by simp, hk⟩
     · have := ih h
       exact ⟨by simp [this.1], this.2⟩
theorem Fits.pick {F : Array Value} {M : FM} (h : Fits F M) : ∀ {ts : List Nat} {M' : FM}, pick ts M = some M' → Fits F M'
 | [], M', hp => by
   simp [Go.Proofs.Ytcedmbdahbdmaaa.pick] at hp
   subst hp
   intro p hp
   simp at hp
 | t :: ts, M', hp => by
   unfold Go.Proofs.Ytcedmbdahbdmaaa.pick at hp
   split at hp
   · rename_i v r hv hr
     injection hp with hp
     subst hp
     intro p hp
     rcases List.mem_cons.1 hp with rfl | hp
     · exact h.lk hv
     · exact Fits.pick h hr p hp
   · cases hp
def putM (n : Nat) (M : FM) (d : Option Nat) (v : Value) : Option FM :=
 match d with
 | none => some M
 | some d => if d < n then some ((d, v) :: del M d) else none
theorem Fits.put {F : Array Value} {M M' : FM} {d : Option Nat} {v : Value} (h : Fits F M) (hp : putM F.size M d v = some M') :
   Fits ((⟨F, []⟩ : Act).put d v).tmps M' ∧ ((⟨F, []⟩ : Act).put d v).tmps.size = F.size ∧ ((⟨F, []⟩ : Act).put d v) = ⟨((⟨F, []⟩ : Act).put d v).tmps, []⟩ := by
 cases d with
 | none =>
   simp [putM] at hp
   subst hp
   exact ⟨h, rfl, rfl⟩
 | some d =>
   unfold putM at hp
   simp only at hp
   split at hp
   · rename_i hd
     injection hp with hp
     subst hp
     refine ⟨?_, by simp [Act.put], rfl⟩
     intro p hp
     rcases List.mem_cons.1 hp with rfl | hp
     · simp [Act.put, hd]
     · have := mem_del hp
       simp only [Act.put]
       rw [Array.getElem?_setIfInBounds_ne (Ne.symm this.2)]
       exact h p this.1
   · cases hp
def evM (M : FM) : Operand → Option Value
 | .tmp t => lk M t
 | .const v => some v
 | .global g => some (.pointer (some ⟨g, 0, none⟩))
 | .func f => some (.func (.func f) #[] #[])
def evD (M : FM) (x : Operand) : Value := (evM M x).getD undef
theorem evM_fits {F : Array Value} {M : FM} (h : Fits F M) {x : Operand} {v : Value} (hv : evM M x = some v) : (⟨F, []⟩ : Act).eval x = v := by
 cases x with
 | tmp t =>
   have := h.lk hv
   simp [Act.eval, this]
 | const u => simpa [evM, Act.eval] using hv
 | global g => simpa [evM, Act.eval] using hv
 | func f => simpa [evM, Act.eval] using hv
def knownL (M : FM) : List Operand → Bool
 | [] => true
 | x :: r => (evM M x).isSome && knownL M r
def isSelect : Op → Bool
 | .select _ _ => true
 | _ => false
def isDefer : Op → Bool
 | .defer _ => true
 | _ => false
def known (M : FM) (o : Oper) : Bool := !isSelect o.op && knownL M o.op.operands.toList
theorem knownL_mem {M : FM} : ∀ {l : List Operand}, knownL M l = true → ∀ x ∈ l, (evM M x).isSome = true
 | [], _, x, hx => by simp at hx
 | y :: r, h, x, hx => by
   simp only [knownL, Bool.and_eq_true] at h
   rcases List.mem_cons.1 hx with rfl | hx
   · exact h.1
   · exact knownL_mem h.2 x hx
theorem known_exec {F : Array Value} {M : FM} (h : Fits F M) {o : Oper} (hk : known M o = true) : execOp (⟨F, []⟩ : Act).eval o = execOp (evD M) o := by
 simp only [known, Bool.and_eq_true, Bool.not_eq_true'] at hk
 refine execOp_congr o (fun cs b he => ?_) (fun x hx => ?_)
 · rw [he] at hk
   simp [isSelect] at hk
 · have := knownL_mem hk.2 x (by simpa using hx)
   obtain ⟨v, hv⟩ := Option.isSome_iff_exists.1 this
   rw [evM_fits h hv]
   simp [evD, hv]
def gdM (ops : Array Oper) (M : FM) (o : Oper) : Option Bool :=
 match o.guard with
 | none => some true
 | some (j, want) => match (ops[j]?).bind (·.dst) with
   | none => none
   | some d => match lk M d with
     | some (.bool b) => some (b == want)
     | some (.tuple _) => some false
     | _ => none
theorem gdM_fits {ops : Array Oper} {F : Array Value} {M : FM} (h : Fits F M) {o : Oper} {b : Bool} (hg : gdM ops M o = some b) : Region.wanted o (yielded ops F) = b := by
 unfold gdM at hg
 unfold Region.wanted
 split at hg
 · rename_i hn
   rw [hn]
   simpa using hg
 · rename_i j want hn
   rw [hn]
   simp only
   split at hg
   · cases hg
   · rename_i d hd
     split at hg
     · rename_i c hc
       have hy : yielded ops F j = some c := by
         unfold yielded
         rw [hd]
         simp [h.lk hc]
       rw [hy]
       exact Option.some.inj hg
     · rename_i c hc
       have hy : yielded ops F j = none := by
         unfold yielded
         rw [hd]
         simp [h.lk hc]
       rw [hy]
       exact Option.some.inj hg
     · cases hg
def pev {α : Type} (P : Program) : Sem α → Option α
 | .pure a => some a
 | .program k => pev P (k P)
 | .mark _ k => pev P k
 | _ => none
theorem pev_run {α : Type} {P : Program} : ∀ {s : Sem α} {a : α}, pev P s = some a → ∀ w, s.run P w = .ok a w := by
 intro s
 induction s with
 | pure b => intro a h w; simp [pev] at h; subst h; rfl
 | program k ih => intro a h w; simp only [pev] at h; simp only [Sem.run]; exact ih P h w
 | mark m k ih => intro a h w; simp only [pev] at h; simp only [Sem.run]; exact ih h w
 | _ => intro a h; simp [pev] at h
def opPev (P : Program) (M : FM) (o : Oper) : Option Value :=
 match pev P (execOp (evD M) o) with
 | some (.value v) => some v
 | _ => none
def batch (P : Program) (ops : Array Oper) (n : Nat) : (k : Nat) → (i : Nat) → FM → Option FM
 | 0, _, M => some M
 | k + 1, i, M => match ops[i]? with
   | none => none
   | some o => match gdM ops M o with
     | none => none
     | some false => match putM n M o.dst undef with
       | some M' => batch P ops n k (i + 1) M'
       | none => none
     | some true => if known M o then
         match opPev P M o with
         | some v => match putM n M o.dst v with
           | some M' => batch P ops n k (i + 1) M'
           | none => none
         | none => none
       else none
def GL (P : Program) (ops : Array Oper) (Q : Exit → Act → World → Prop) (i n : Nat) (M : FM) (w : World) : Prop :=
 ∀ F : Array Value, F.size = n → Fits F M → wpList P ops Q (ops.toList.drop i) ⟨F, []⟩ w
def G (P : Program) (c : Code) (Q : Exit → Act → World → Prop) (n : Nat) (M : FM) (w : World) : Prop :=
 ∀ F : Array Value, F.size = n → Fits F M → c.wp P Q ⟨F, []⟩ w
section
variable {P : Program} {ops : Array Oper} {Q : Exit → Act → World → Prop} {i n : Nat} {M M' : FM} {w : World}
theorem drop_at {o : Oper} (ho : ops[i]? = some o) : ops.toList.drop i = o :: ops.toList.drop (i + 1) := by
 have h : ops.toList[i]? = some o := by simpa using ho
 have hl : i < ops.toList.length := (List.getElem?_eq_some_iff.1 h).1
 rw [List.drop_eq_getElem_cons hl]
 congr 1
 exact (List.getElem?_eq_some_iff.1 h).2
theorem GL.step {o : Oper} {w' : World} {v : Value} (ho : ops[i]? = some o) (hg : gdM ops M o = some true)
   (hr : ∀ F : Array Value, F.size = n → Fits F M → (execOp (⟨F, []⟩ : Act).eval o).run P w = .ok (.value v) w')
   (hp : putM n M o.dst v = some M') (h : GL P ops Q (i + 1) n M' w') : GL P ops Q i n M w := by
 intro F hF hM
 rw [drop_at ho]
 refine wpList_step fun K hK => ?_
 rw [gdM_fits hM hg, if_pos rfl]
 unfold Oper.wp
 rw [hr F hF hM]
 have hp' := hM.put (d := o.dst) (v := v) (M' := M') (by rw [hF]; exact hp)
 show K _ _
 rw [hp'.2.2]
 exact hK _ _ (h _ (by rw [hp'.2.1, hF]) hp'.1)
theorem GL.skip_ {o : Oper} (ho : ops[i]? = some o) (hg : gdM ops M o = some false) (hp : putM n M o.dst undef = some M') (h : GL P ops Q (i + 1) n M' w) : GL P ops Q i n M w := by
 intro F hF hM
 rw [drop_at ho]
 refine wpList_step fun K hK => ?_
 rw [gdM_fits hM hg]
 simp only [Bool.false_eq_true, if_false]
 have hp' := hM.put (d := o.dst) (v := undef) (M' := M') (by rw [hF]; exact hp)
 rw [hp'.2.2]
 exact hK _ _ (h _ (by rw [hp'.2.1, hF]) hp'.1)
theorem GL.batch_ : ∀ {k i : Nat} {M M' : FM}, batch P ops n k i M = some M' → GL P ops Q (i + k) n M' w → GL P ops Q i n M w
 | 0, i, M, M', hb, h => by
   simp [batch] at hb
   subst hb
   exact h
 | k + 1, i, M, M', hb, h => by
   have h' : GL P ops Q (i + 1 + k) n M' w := by rwa [show i + 1 + k = i + (k + 1) from by omega]
   unfold batch at hb
   split at hb
   · cases hb
   · rename_i o ho
     split at hb
     · cases hb
     · rename_i hg
       split at hb
       · rename_i M1 hp
         exact GL.skip_ ho hg hp (GL.batch_ hb h')
       · cases hb
     · rename_i hg
       split at hb
       · rename_i hk
         split at hb
         · rename_i v hv
           split at hb
           · rename_i M1 hp
             refine GL.step ho hg (fun F hF hM => ?_) hp (GL.batch_ hb h')
             rw [known_exec hM hk]
             unfold opPev at hv
             split at hv
             · rename_i u hu
               injection hv with hv
               subst hv
               exact pev_run hu w
             · cases hv
           · cases hb
         · cases hb
       · cases hb
theorem GL.fit {ts : List Nat} (hp : pick ts M = some M') (h : GL P ops Q i n M' w) : GL P ops Q i n M w := fun F hF hM => h F hF (hM.pick hp)
theorem GL.run (k : Nat) (ts : List Nat) (M' : FM) {j : Nat} (hb : (batch P ops n k i M).bind (pick ts) = some M') (hj : i + k = j) (h : GL P ops Q j n M' w) : GL P ops Q i n M w := by
 subst hj
 cases hm : batch P ops n k i M with
 | none => rw [hm] at hb; cases hb
 | some M1 =>
   rw [hm] at hb
   exact GL.batch_ hm (GL.fit hb h)
theorem GL.eq {M' : FM} (he : M = M') (h : GL P ops Q i n M' w) : GL P ops Q i n M w := he ▸ h
theorem G.eq {c : Code} {M' : FM} (he : M = M') (h : G P c Q n M' w) : G P c Q n M w := he ▸ h
theorem G.fit {c : Code} (ts : List Nat) (hp : pick ts M = some M') (h : G P c Q n M' w) : G P c Q n M w := fun F hF hM => h F hF (hM.pick hp)
theorem GL.done (hi : Nat.ble ops.size i = true) (h : ∀ F : Array Value, F.size = n → Fits F M → Q .normal ⟨F, []⟩ w) : GL P ops Q i n M w := by
 intro F hF hM
 rw [List.drop_eq_nil_of_le (by simpa using Nat.le_of_ble_eq_true hi)]
 exact wpList_nil (h F hF hM)
theorem G.region {id : Nat} (h : GL P ops Q 0 n M w) : G P (.region id ops false) Q n M w := fun F hF hM =>
 wp_region_list (by simpa using h F hF hM)
theorem G.seq {a b : Code} (h : G P a (Exit.then (fun a w => b.wp P Q a w) Q) n M w) : G P (.seq a b) Q n M w := fun F hF hM => wp_seq (h F hF hM)
theorem G.block {id : Nat} {c : Code} (h : G P c (Exit.inBlock id Q) n M w) : G P (.block id c) Q n M w := fun F hF hM => wp_block (h F hF hM)
theorem G.exit {id : Nat} {b : Code} {Q' : Exit → Act → World → Prop} (hq : ∀ a w, b.wp P Q' a w → Q (.exit id) a w) (h : G P b Q' n M w) : G P (.exit id) Q n M w := fun F hF hM => wp_exit (hq _ _ (h F hF hM))
theorem G.cond {c : Operand} {x y : Code} {b : Bool} (hc : evM M c = some (.bool b)) (hx : b = true → G P x Q n M w) (hy : b = false → G P y Q n M w) : G P (.cond c x y) Q n M w := by
 intro F hF hM
 refine wp_cond (evM_fits hM hc) ?_
 cases b
 · exact hy rfl F hF hM
 · exact hx rfl F hF hM
theorem G.yes {c : Operand} {x y : Code} (hc : evM M c = some (.bool true)) (hx : G P x Q n M w) : G P (.cond c x y) Q n M w := G.cond hc (fun _ => hx) (fun h => by cases h)
theorem G.no {c : Operand} {x y : Code} (hc : evM M c = some (.bool false)) (hy : G P y Q n M w) : G P (.cond c x y) Q n M w := G.cond hc (fun h => by cases h) (fun _ => hy)
theorem G.ret (h : ∀ F : Array Value, F.size = n → Fits F M → Q .ret ⟨F, []⟩ w) : G P .ret Q n M w := fun F hF hM => wp_ret (h F hF hM)
def Again (n : Nat) {X : Type} (Mx : X → FM) (J : X → World → Prop) (μ : X → Nat) (x : X) : Act → World → Prop :=
 fun a w => ∃ x', μ x' < μ x ∧ J x' w ∧ ∃ F : Array Value, a = ⟨F, []⟩ ∧ F.size = n ∧ Fits F (Mx x')
theorem G.loop {X : Type} {c : Code} (Mx : X → FM) (J : X → World → Prop) (μ : X → Nat) (x0 : X) (ts : List Nat) (hM : pick ts M = some (Mx x0)) (hJ : J x0 w)
   (hstep : ∀ x w, J x w → G P c (Exit.then (Again n Mx J μ x) Q) n (Mx x) w) : G P (.loop c) Q n M w := by
 have key : ∀ m x w, μ x ≤ m → J x w → ∀ F : Array Value, F.size = n → Fits F (Mx x) → Code.rounds P c Q (m + 1) ⟨F, []⟩ w := by
   intro m
   induction m with
   | zero =>
     intro x w hm hx F hF hFit
     rw [rounds_succ]
     refine wp_mono (hstep x w hx F hF hFit) ?_
     intro e a' w' hq
     cases e with
     | normal =>
       obtain ⟨x', hlt, _⟩ := hq
       omega
     | _ => exact hq
   | succ m ih =>
     intro x w hm hx F hF hFit
     rw [rounds_succ]
     refine wp_mono (hstep x w hx F hF hFit) ?_
     intro e a' w' hq
     cases e with
     | normal =>
       obtain ⟨x', hlt, hJ', F', rfl, hF', hfit'⟩ := hq
       exact ih x' w' (by omega) hJ' F' hF' hfit'
     | _ => exact hq
 intro F hF hFit
 exact wp_loop_rounds _ (key (μ x0) x0 w (Nat.le_refl _) hJ F hF (hFit.pick hM))
theorem GL.again {X : Type} {Mx : X → FM} {J : X → World → Prop} {μ : X → Nat} {x : X} {Q : Exit → Act → World → Prop} (x' : X) (ts : List Nat) (hi : Nat.ble ops.size i = true) (hp : pick ts M = some (Mx x')) (hμ : μ x' < μ x) (hJ : J x' w) :
   GL P ops (Exit.then (Again n Mx J μ x) Q) i n M w :=
 GL.done hi fun F hF hM => ⟨x', hμ, hJ, F, rfl, hF, hM.pick hp⟩
theorem G.unroll {c : Code} (k : Nat) (h : G P c (Exit.then (Code.rounds P c Q k) Q) n M w) : G P (.loop c) Q n M w := fun F hF hM => wp_loop_rounds (k + 1) (h F hF hM)
theorem GL.round {c : Code} {Q : Exit → Act → World → Prop} {k : Nat} (hi : Nat.ble ops.size i = true) (h : G P c (Exit.then (Code.rounds P c Q k) Q) n M w) : GL P ops (Exit.then (Code.rounds P c Q (k + 1)) Q) i n M w :=
 GL.done hi fun F hF hM => h F hF hM
def argsM : Nat → List Value → FM
 | _, [] => []
 | k, v :: r => (k, v) :: argsM (k + 1) r
theorem fits_args (args : List Value) (m : Nat) : ∀ (l : List Value) (k : Nat), (∀ j, l[j]? = args[k + j]? ∨ l.length ≤ j) → Fits (args.toArray ++ Array.replicate m undef) (argsM k l)
 | [], k, _ => by intro p hp; simp [argsM] at hp
 | v :: r, k, h => by
   intro p hp
   rcases List.mem_cons.1 hp with rfl | hp
   · have h0 := (h 0).resolve_right (by simp)
     simp only [List.getElem?_cons_zero, Nat.add_zero] at h0
     have hk : k < args.length := by
       rcases Nat.lt_or_ge k args.length with h1 | h1
       · exact h1
       · rw [List.getElem?_eq_none h1] at h0; cases h0
     show (args.toArray ++ Array.replicate m undef)[k]? = some v
     rw [Array.getElem?_append_left (by simpa using hk)]
     simpa using h0.symm
   · refine fits_args args m r (k + 1) (fun j => ?_) p hp
     rcases h (j + 1) with h1 | h1
     · left
       rw [List.getElem?_cons_succ] at h1
       rw [h1]
       congr 1
       omega
     · right
       simp at h1
       omega
theorem calls_G {f : FuncId} {fn : Func} {c : Code} {args : List Value} {R : Ending → World → Prop} (hf : P.funcs[f]? = some fn) (hb : fn.body = some c) (hn : fn.ntmps = n) (hl : Nat.ble args.length n = true)
   (h : ∀ Q : Exit → Act → World → Prop, (∀ a w, bodyPost P fn R .ret a w → Q .ret a w) → (∀ a w, bodyPost P fn R .ret a w → Q .normal a w) → (∀ c (a : Act) d v w, Q (.panic c) (a.put d v) w → Q (.panic c) a w) → G P c Q n (argsM 0 args) w) : Calls P f args.toArray w R := by
 refine calls_of_wp hf hb ?_
 refine h (bodyPost P fn R) (fun _ _ h => h) (fun _ _ h => h) (fun c a d v w h => by cases d <;> exact h) _ ?_ ?_
 · have := Nat.le_of_ble_eq_true hl
   simp [hn]; omega
 · exact fits_args args _ args 0 (fun j => by left; simp)
theorem bodyPost_tmps0 {fn : Func} {R : Ending → World → Prop} (hr : fn.results = #[]) (h : R (.returned (.tuple #[])) w) :
   ∀ F : Array Value, F.size = n → Fits F M → bodyPost P fn R .ret ⟨F, []⟩ w := fun F _ _ => by
 refine ⟨rfl, .tuple #[], ?_, h⟩
 simp [results, hr]
end
end Go.Proofs.Ytcedmbdahbdmaaa
namespace Go.Proofs.Ytcedmbdahbdmaaa
open Go.RowKit
inductive Ent where
 | blk (b : Nat) (cs : List Value) (t : TypeId)
 | row (A : Option Addr) (n c : Nat) (e : TypeId) (sz : Nat) (xs : List Value)
 | obj (k : Nat) (o : Obj)
 | bag (Bs : List (Option Addr × Nat × Nat × TypeId × List Value))
def Ent.ids : Ent → List Nat
 | .blk b _ _ => [b]
 | .row A _ _ _ _ _ => (A.map (·.block)).toList
 | .obj k _ => [k]
 | .bag Bs => Bs.flatMap fun p => (p.1.map (·.block)).toList
def Blk (w : World) (b : Nat) (cs : List Value) (t : TypeId) : Prop :=
 ∃ lo hi, w.heap[b]? = some (.cells cs.toArray t (lo, hi)) ∧ (lo = hi ∨ cs.length ≤ lo)
def Ent.holds (w : World) : Ent → Prop
 | .blk b cs t => Blk w b cs t
 | .row A n c e sz xs => w.ownsRow 0 e sz (.slice A n c) n xs
 | .obj k o => w.heap[k]? = some o
 | .bag Bs => ∀ p, p ∈ Bs → w.ownsRow 0 p.2.2.2.1 1 (.slice p.1 p.2.1 p.2.2.1) p.2.1 p.2.2.2.2
def ids (L : List Ent) : List Nat := L.flatMap Ent.ids
theorem ids_cons (e : Ent) (L : List Ent) : ids (e :: L) = e.ids ++ ids L := by simp [ids]
theorem ids_append (L M : List Ent) : ids (L ++ M) = ids L ++ ids M := by simp [ids]
structure Hp (w0 : World) (S : List Nat) (L : List Ent) (w : World) : Prop where
 os : w.os = w0.os
 tape : w.tape = w0.tape
 output : w.output = w0.output
 size : w0.heap.size ≤ w.heap.size
 keep : ∀ k, k < w0.heap.size → k ∉ S → w.heap[k]? = w0.heap[k]?
 ents : ∀ e, e ∈ L → e.holds w
 old : ∀ k, k ∈ ids L → w0.heap.size ≤ k ∨ k ∈ S
 nd : (ids L).Nodup
section
variable {P : Program} {w0 w w' : World} {S : List Nat} {L : List Ent}
theorem Blk.cell {b : Nat} {cs : List Value} {t : TypeId} (h : Blk w b cs t) (o : Nat) : w.cell? ⟨b, o, none⟩ = cs[o]? := by
 obtain ⟨lo, hi, hb, _⟩ := h
 simp [World.cell?, hb]
theorem Blk.frozen {b : Nat} {cs : List Value} {t : TypeId} (h : Blk w b cs t) {o : Nat} (ho : o < cs.length) : w.frozen? ⟨b, o, none⟩ = false := by
 obtain ⟨lo, hi, hb, hf⟩ := h
 simp only [World.frozen?, hb]
 have : ¬ (lo ≤ o ∧ o < hi) := by omega
 simpa using this
theorem Blk.lt {b : Nat} {cs : List Value} {t : TypeId} (h : Blk w b cs t) : b < w.heap.size := by
 obtain ⟨lo, hi, hb, _⟩ := h
 exact (Array.getElem?_eq_some_iff.1 hb).1
theorem Blk.same {b : Nat} {cs : List Value} {t : TypeId} (h : Blk w b cs t) (hb : w'.heap[b]? = w.heap[b]?) : Blk w' b cs t := by
 obtain ⟨lo, hi, h1, h2⟩ := h
 exact ⟨lo, hi, hb.trans h1, h2⟩
theorem Blk.new (w : World) (cs : List Value) (t : TypeId) : Blk (w.alloc (.cells cs.toArray t)) w.heap.size cs t :=
 ⟨0, 0, heap_alloc_new w _, .inl rfl⟩
theorem Blk.set_ {b : Nat} {cs : List Value} {t : TypeId} (h : Blk w b cs t) (o : Nat) (v : Value) : Blk (w.setCell ⟨b, o, none⟩ v) b (cs.set o v) t := by
 obtain ⟨lo, hi, h1, h2⟩ := h
 refine ⟨lo, hi, ?_, by simpa using h2⟩
 simp [World.setCell, Array.getElem?_modify, h1]
theorem row_lt {A : Option Addr} {n c e sz : Nat} {xs : List Value} {b0 : Nat} (h : w.ownsRow b0 e sz (.slice A n c) n xs) : ∀ k ∈ (A.map (·.block)).toList, k < w.heap.size := by
 intro k hk
 rcases h.2 with ⟨h0, _⟩ | ⟨g, cap, cur, hv, _, hh, _⟩
 · injection h0 with hA
   subst hA
   simp at hk
 · injection hv with hA
   subst hA
   simp at hk
   subst hk
   exact (Array.getElem?_eq_some_iff.1 hh).1
theorem row_same {A : Option Addr} {n c e sz : Nat} {xs : List Value} {b0 : Nat} (h : w.ownsRow b0 e sz (.slice A n c) n xs) (hs : ∀ k ∈ (A.map (·.block)).toList, w'.heap[k]? = w.heap[k]?) :
   w'.ownsRow b0 e sz (.slice A n c) n xs := by
 refine ⟨h.1, ?_⟩
 rcases h.2 with h0 | ⟨g, cap, cur, hv, hg, hh, hr⟩
 · exact .inl h0
 · refine .inr ⟨g, cap, cur, hv, hg, (hs g ?_).trans hh, hr⟩
   injection hv with hA
   subst hA
   simp
theorem Ent.lt {e : Ent} (h : e.holds w) : ∀ k ∈ e.ids, k < w.heap.size := by
 intro k hk
 cases e with
 | blk b cs t =>
   simp [Ent.ids] at hk
   subst hk
   exact Blk.lt h
 | row A n c e sz xs => exact row_lt h k hk
 | obj j o =>
   simp [Ent.ids] at hk
   subst hk
   exact (Array.getElem?_eq_some_iff.1 h).1
 | bag Bs =>
   obtain ⟨p, hp, hk⟩ := List.mem_flatMap.1 hk
   exact row_lt (h p hp) k hk
theorem Ent.same {e : Ent} (h : e.holds w) (hs : ∀ k ∈ e.ids, w'.heap[k]? = w.heap[k]?) : e.holds w' := by
 cases e with
 | blk b cs t => exact Blk.same h (hs b (by simp [Ent.ids]))
 | row A n c e sz xs => exact row_same h hs
 | obj j o => exact (hs j (by simp [Ent.ids])).trans h
 | bag Bs => exact fun p hp => row_same (h p hp) fun k hk => hs k (List.mem_flatMap.2 ⟨p, hp, hk⟩)
theorem ids_mem {e : Ent} (he : e ∈ L) {k : Nat} (hk : k ∈ e.ids) : k ∈ ids L := List.mem_flatMap.2 ⟨e, he, hk⟩
theorem Hp.start (w : World) : Hp w [] [] w := ⟨rfl, rfl, rfl, Nat.le_refl _, fun _ _ _ => rfl, fun e he => by simp at he, fun k hk => by simp [ids] at hk, by simp [ids]⟩
theorem Hp.lt (H : Hp w0 S L w) : ∀ k ∈ ids L, k < w.heap.size := by
 intro k hk
 obtain ⟨e, he, hk'⟩ := List.mem_flatMap.1 hk
 exact Ent.lt (H.ents e he) k hk'
theorem Hp.below (H : Hp w0 [] L w) : Below w0.heap.size w0 w := ⟨H.os, H.tape, H.output, H.size, fun k hk => H.keep k hk (by simp)⟩
theorem Hp.step (H : Hp w0 S L w) (hb : Below w.heap.size w w') : Hp w0 S L w' :=
 ⟨hb.os.trans H.os, hb.tape.trans H.tape, hb.output.trans H.output, Nat.le_trans H.size hb.size,
  fun k hk hs => (hb.block k (Nat.lt_of_lt_of_le hk H.size)).trans (H.keep k hk hs),
  fun e he => Ent.same (H.ents e he) (fun k hk => hb.block k (Ent.lt (H.ents e he) k hk)), H.old, H.nd⟩
theorem Hp.drew (H : Hp w0 S L w) : Hp w0 S L { w with drawn := w.drawn + 1 } := H.step (Below.refl _ _).drew
theorem nodup_sub {L L' : List Ent} (h : L'.Sublist L) (hn : (ids L).Nodup) : (ids L').Nodup := by
 have : (ids L').Sublist (ids L) := by
   induction h with
   | slnil => simp
   | cons e _ ih => rw [ids_cons]; exact (ih (by rw [ids_cons] at hn; exact (List.nodup_append.1 hn).2.1)).trans (List.sublist_append_right _ _)
   | cons_cons e _ ih => rw [ids_cons, ids_cons]; exact List.Sublist.append_left (ih (by rw [ids_cons] at hn; exact (List.nodup_append.1 hn).2.1)) _
 exact hn.sublist this
theorem Hp.sub {L' : List Ent} (H : Hp w0 S L w) (h : L'.Sublist L) : Hp w0 S L' w :=
 ⟨H.os, H.tape, H.output, H.size, H.keep, fun e he => H.ents e (h.subset he),
  fun k hk => by
    obtain ⟨e, he, hk'⟩ := List.mem_flatMap.1 hk
    exact H.old k (ids_mem (h.subset he) hk'),
  nodup_sub h H.nd⟩
theorem Hp.callNew {L' : List Ent} (H : Hp w0 S L w) (H' : Hp w [] L' w') : Hp w0 S (L ++ L') w' := by
 have H1 := H.step H'.below
 refine ⟨H1.os, H1.tape, H1.output, H1.size, H1.keep, ?_, ?_, ?_⟩
 · intro e he
   rcases List.mem_append.1 he with he | he
   · exact H1.ents e he
   · exact H'.ents e he
 · intro k hk
   rw [ids_append] at hk
   rcases List.mem_append.1 hk with hk | hk
   · exact H1.old k hk
   · rcases H'.old k hk with h | h
     · exact .inl (Nat.le_trans H.size h)
     · simp at h
 · rw [ids_append]
   refine List.nodup_append.2 ⟨H1.nd, H'.nd, ?_⟩
   intro a ha b hb hab
   subst hab
   have h1 := H.lt a ha
   rcases H'.old a hb with h | h
   · omega
   · simp at h
theorem Hp.callNil (H : Hp w0 S L w) (H' : Hp w [] [] w') : Hp w0 S L w' := by
 have := H.callNew H'
 simpa using this
theorem Hp.blkAt (H : Hp w0 S L w) (i : Nat) {b : Nat} {cs : List Value} {t : TypeId} (hL : L[i]? = some (.blk b cs t)) : Blk w b cs t := H.ents _ (List.mem_of_getElem? hL)
theorem Hp.rowAt (H : Hp w0 S L w) (i : Nat) {A : Option Addr} {n c e sz : Nat} {xs : List Value} (hL : L[i]? = some (.row A n c e sz xs)) : w.ownsRow 0 e sz (.slice A n c) n xs := H.ents _ (List.mem_of_getElem? hL)
theorem Hp.oldCell (H : Hp w0 [] L w) {a : Addr} {v : Value} (h : w0.cell? a = some v) : w.cell? a = some v := by
 have hlt : a.block < w0.heap.size := block_lt_of_cell h
 rw [World.cell?_of_block (w := w0) (H.keep a.block hlt (by simp))]
 exact h
def scal (P : Program) (ty : TypeId) : Bool :=
 match P.underlying ty, P.info? ty with
 | some (.struct _), _ => false
 | some (.array _ _), _ => false
 | some _, some i => i.size == 1
 | _, _ => false
def aggSz (P : Program) (ty : TypeId) : Option Nat :=
 match P.underlying ty, P.info? ty with
 | some (.struct _), some i => some i.size
 | some (.array _ _), some i => some i.size
 | _, _ => none
theorem run_isAgg_scal {ty : TypeId} (h : scal P ty = true) (w : World) : (isAgg ty).run P w = .ok false w := by
 unfold scal at h
 cases hu : P.underlying ty with
 | none => simp [hu] at h
 | some d =>
   unfold isAgg
   rw [Sem.run_bind, run_underlying hu w]
   cases d <;> simp_all
theorem run_isAgg_agg {ty m : TypeId} (h : aggSz P ty = some m) (w : World) : (isAgg ty).run P w = .ok true w := by
 unfold aggSz at h
 cases hu : P.underlying ty with
 | none => simp [hu] at h
 | some d =>
   unfold isAgg
   rw [Sem.run_bind, run_underlying hu w]
   cases d <;> simp_all
theorem run_sizeOf_agg {ty m : TypeId} (h : aggSz P ty = some m) (w : World) : (sizeOf ty).run P w = .ok m w := by
 unfold aggSz at h
 cases hi : P.info? ty with
 | none => simp only [hi] at h; split at h <;> simp_all
 | some i =>
   simp only [hi] at h
   have : i.size = m := by split at h <;> simp_all
   simp [sizeOf, typeInfo, hi, this]
theorem run_sizeOf_scal {ty : TypeId} (h : scal P ty = true) (w : World) : (sizeOf ty).run P w = .ok 1 w := by
 unfold scal at h
 cases hi : P.info? ty with
 | none => simp only [hi] at h; split at h <;> simp_all
 | some i =>
   simp only [hi] at h
   have : i.size = 1 := by split at h <;> simp_all
   simp [sizeOf, typeInfo, hi, this]
theorem run_ld1 {ty : TypeId} {a : Addr} {v : Value} (hs : scal P ty = true) (hc : w.cell? a = some v) : (Instr.loadAt ty (.pointer (some a))).run P w = .ok v w := by
 simp [Instr.loadAt, Instr.sureAddr, loadVar, run_isAgg_scal hs, hc]
theorem run_ldA {ty m : TypeId} {b o : Nat} {cs sub : List Value} {t : TypeId} (hs : aggSz P ty = some m) (hb : Blk w b cs t) (hsub : (cs.drop o).take m = sub) (hl : sub.length = m) :
   (Instr.loadAt ty (.pointer (some ⟨b, o, none⟩))).run P w = .ok (.agg sub.toArray) w := by
 have h1 : (loadCells ⟨b, o, none⟩ sub.length).run P w = .ok sub.toArray w := by
   refine run_loadCells_list (P := P) w ⟨b, o, none⟩ sub (fun j v hv => ?_)
   have hadd : (⟨b, o, none⟩ : Addr).add j = ⟨b, o + j, none⟩ := by unfold Addr.add; split <;> simp_all
   rw [hadd, hb.cell, ← hv, ← hsub]
   have hj : j < m := by
     rw [← hl]
     exact (List.getElem?_eq_some_iff.1 hv).1
   rw [List.getElem?_take_of_lt hj, List.getElem?_drop]
 rw [hl] at h1
 simp [Instr.loadAt, Instr.sureAddr, loadVar, run_isAgg_agg hs, run_sizeOf_agg hs, h1]
theorem Hp.ld (H : Hp w0 S L w) (i : Nat) {b o : Nat} {cs : List Value} {t ty : TypeId} {v : Value} (hL : L[i]? = some (.blk b cs t)) (hs : scal P ty = true) (hv : cs[o]? = some v) :
   (Instr.loadAt ty (.pointer (some ⟨b, o, none⟩))).run P w = .ok v w := run_ld1 hs (by rw [(H.blkAt i hL).cell]; exact hv)
theorem Hp.ldA (H : Hp w0 S L w) (i : Nat) {b o : Nat} {cs sub : List Value} {t ty m : TypeId} (hL : L[i]? = some (.blk b cs t)) (hs : aggSz P ty = some m) (hsub : (cs.drop o).take m = sub) (hl : sub.length = m) :
   (Instr.loadAt ty (.pointer (some ⟨b, o, none⟩))).run P w = .ok (.agg sub.toArray) w := run_ldA hs (H.blkAt i hL) hsub hl
theorem ids_set {i : Nat} {e e' : Ent} (hL : L[i]? = some e) (he : e'.ids = e.ids) : ids (L.set i e') = ids L := by
 induction L generalizing i with
 | nil => simp at hL
 | cons x r ih =>
   cases i with
   | zero =>
     simp at hL
     subst hL
     simp [ids_cons, he]
   | succ i =>
     simp only [List.set_cons_succ, ids_cons]
     rw [ih (by simpa using hL)]
theorem other_ids {i j : Nat} {e x : Ent} (hn : (ids L).Nodup) (hi : L[i]? = some e) (hj : L[j]? = some x) (hne : i ≠ j) {k : Nat} (hk : k ∈ e.ids) : k ∉ x.ids := by
 induction L generalizing i j with
 | nil => simp at hi
 | cons y r ih =>
   rw [ids_cons] at hn
   obtain ⟨_, hn2, hn3⟩ := List.nodup_append.1 hn
   cases i with
   | zero =>
     simp at hi
     subst hi
     cases j with
     | zero => omega
     | succ j =>
       intro hkx
       have hx : x ∈ r := List.mem_of_getElem? (by simpa using hj)
       exact hn3 k hk k (ids_mem hx hkx) rfl
   | succ i =>
     cases j with
     | zero =>
       simp at hj
       subst hj
       intro hkx
       have he : e ∈ r := List.mem_of_getElem? (by simpa using hi)
       exact hn3 k hkx k (ids_mem he hk) rfl
     | succ j => exact ih hn2 (by simpa using hi) (by simpa using hj) (by omega)
theorem Hp.turn (H : Hp w0 S L w) (i : Nat) {e e' : Ent} (hL : L[i]? = some e) (he : e'.ids = e.ids) (h' : e'.holds w') (hos : w'.os = w.os) (htape : w'.tape = w.tape) (hout : w'.output = w.output)
   (hsz : w.heap.size ≤ w'.heap.size) (hk : ∀ k, k < w.heap.size → k ∉ e.ids → w'.heap[k]? = w.heap[k]?) : Hp w0 S (L.set i e') w' := by
 refine ⟨hos.trans H.os, htape.trans H.tape, hout.trans H.output, Nat.le_trans H.size hsz, ?_, ?_, ?_, ?_⟩
 · intro k hk0 hS
   refine (hk k (Nat.lt_of_lt_of_le hk0 H.size) (fun hin => ?_)).trans (H.keep k hk0 hS)
   rcases H.old k (ids_mem (List.mem_of_getElem? hL) hin) with h | h
   · omega
   · exact hS h
 · intro x hx
   obtain ⟨j, hj⟩ := List.getElem?_of_mem hx
   by_cases hij : i = j
   · subst hij
     have hi : i < L.length := (List.getElem?_eq_some_iff.1 hL).1
     rw [List.getElem?_set_self hi] at hj
     injection hj with hj
     subst hj
     exact h'
   · rw [List.getElem?_set_ne hij] at hj
     have hxx := H.ents x (List.mem_of_getElem? hj)
     refine Ent.same hxx (fun k hkx => hk k (Ent.lt hxx k hkx) (fun hke => ?_))
     exact other_ids H.nd hL hj hij hke hkx
 · intro k hk
   rw [ids_set hL he] at hk
   exact H.old k hk
 · rw [ids_set hL he]
   exact H.nd
theorem Hp.setCell (H : Hp w0 S L w) (i : Nat) {b : Nat} {cs : List Value} {t : TypeId} (hL : L[i]? = some (.blk b cs t)) (o : Nat) (v : Value) : Hp w0 S (L.set i (.blk b (cs.set o v) t)) (w.setCell ⟨b, o, none⟩ v) :=
 H.turn i hL rfl ((H.blkAt i hL).set_ o v) rfl rfl rfl (by simp [World.setCell]) (fun k _ hk => Below.heap_setCell w _ v k (by simpa [Ent.ids] using hk))
theorem Hp.st (H : Hp w0 S L w) (i : Nat) {b o : Nat} {cs : List Value} {t ty : TypeId} {v : Value} (hL : L[i]? = some (.blk b cs t)) (hs : scal P ty = true) (ho : o < cs.length) (h1 : v.oneCell' = true) :
   ∃ w', (Instr.storeAt ty (.pointer (some ⟨b, o, none⟩)) v).run P w = .ok () w' ∧ Hp w0 S (L.set i (.blk b (cs.set o v) t)) w' := by
 refine ⟨_, ?_, H.setCell i hL o v⟩
 have hcl : v.cells = #[v] := by cases v <;> simp_all [Value.cells, Value.oneCell']
 have hc : w.cell? ⟨b, o, none⟩ = some cs[o] := by
   rw [(H.blkAt i hL).cell]
   simp [ho]
 have hadd : (⟨b, o, none⟩ : Addr).add 0 = ⟨b, o, none⟩ := rfl
 simp [Instr.storeAt, Instr.sureAddr, storeVar, run_sizeOf_scal hs, hcl, storeCells, hadd, run_store P w _ v _ h1, hc, (H.blkAt i hL).frozen ho]
theorem set_splice (cs : List Value) (o : Nat) (v : Value) (rest : List Value) (h : o < cs.length) :
   (cs.set o v).take (o + 1) ++ rest ++ (cs.set o v).drop (o + 1 + rest.length) = cs.take o ++ (v :: rest) ++ cs.drop (o + (v :: rest).length) := by
 have h1 : (cs.set o v).take (o + 1) = cs.take o ++ [v] := by
   rw [List.take_add_one, List.take_set_of_le (Nat.le_refl _)]
   simp [h]
 rw [h1, List.drop_set_of_lt (by omega)]
 simp [Nat.add_comm, Nat.add_left_comm]
theorem Hp.stCells (i : Nat) {b : Nat} {t : TypeId} (o : Nat) : ∀ (vs : List Value) (j : Nat) (L : List Ent) (w : World) (cs : List Value), Hp w0 S L w → L[i]? = some (.blk b cs t) → o + j + vs.length ≤ cs.length → (∀ v ∈ vs, v.oneCell' = true) →
   ∃ w', (storeCells ⟨b, o, none⟩ vs j).run P w = .ok () w' ∧ Hp w0 S (L.set i (.blk b (cs.take (o + j) ++ vs ++ cs.drop (o + j + vs.length)) t)) w'
 | [], j, L, w, cs, H, hL, _, _ => by
   refine ⟨w, rfl, ?_⟩
   have hi : i < L.length := (List.getElem?_eq_some_iff.1 hL).1
   have : L.set i (.blk b (cs.take (o + j) ++ [] ++ cs.drop (o + j + ([] : List Value).length)) t) = L := by
     simp only [List.append_nil, List.length_nil, Nat.add_zero, List.take_append_drop]
     refine List.ext_getElem? (fun k => ?_)
     by_cases hk : i = k
     · subst hk
       rw [List.getElem?_set_self hi, hL]
     · rw [List.getElem?_set_ne hk]
   rw [this]
   exact H
 | v :: vs, j, L, w, cs, H, hL, hlen, h1 => by
   have hoj : o + j < cs.length := by simp at hlen; omega
   have hadd : (⟨b, o, none⟩ : Addr).add j = ⟨b, o + j, none⟩ := by unfold Addr.add; split <;> simp_all
   have hc : w.cell? ⟨b, o + j, none⟩ = some cs[o + j] := by
     rw [(H.blkAt i hL).cell]
     simp [hoj]
   have hst : (store ((⟨b, o, none⟩ : Addr).add j) v).run P w = .ok () (w.setCell ⟨b, o + j, none⟩ v) := by
     rw [hadd, run_store P w _ v _ (h1 v (by simp)), hc]
     simp [(H.blkAt i hL).frozen hoj]
   have hi : i < L.length := (List.getElem?_eq_some_iff.1 hL).1
   obtain ⟨w', hr, H'⟩ := Hp.stCells i (b := b) (t := t) o vs (j + 1) _ _ (cs.set (o + j) v) (H.setCell i hL (o + j) v) (List.getElem?_set_self hi) (by simp at hlen ⊢; omega) (fun x hx => h1 x (by simp [hx]))
   refine ⟨w', ?_, ?_⟩
   · simp only [storeCells, Sem.run_bind, hst, Result.andThen_ok, hr]
   · rw [List.set_set, ← Nat.add_assoc, set_splice cs (o + j) v vs hoj] at H'
     exact H'
theorem Hp.stA (H : Hp w0 S L w) (i : Nat) {b o : Nat} {cs vs : List Value} {t ty m : TypeId} (hL : L[i]? = some (.blk b cs t)) (hs : aggSz P ty = some m) (hm : vs.length = m) (ho : o + m ≤ cs.length) (h1 : ∀ v ∈ vs, v.oneCell' = true) :
   ∃ w', (Instr.storeAt ty (.pointer (some ⟨b, o, none⟩)) (.agg vs.toArray)).run P w = .ok () w' ∧ Hp w0 S (L.set i (.blk b (cs.take o ++ vs ++ cs.drop (o + m)) t)) w' := by
 obtain ⟨w', hr, H'⟩ := Hp.stCells (P := P) i (b := b) (t := t) o vs 0 L w cs H hL (by omega) h1
 refine ⟨w', ?_, by simpa [hm] using H'⟩
 simp [Instr.storeAt, Instr.sureAddr, storeVar, run_sizeOf_agg hs, Value.cells, hm, hr]
theorem Hp.new (H : Hp w0 S L w) (cs : List Value) (t : TypeId) : Hp w0 S (L ++ [.blk w.heap.size cs t]) (w.alloc (.cells cs.toArray t)) := by
 refine H.callNew (L' := [.blk w.heap.size cs t]) ⟨rfl, rfl, rfl, by simp, fun k hk _ => heap_alloc_old w _ hk, ?_, ?_, by simp [ids, Ent.ids]⟩
 · intro e he
   simp at he
   subst he
   exact Blk.new w cs t
 · intro k hk
   simp [ids, Ent.ids] at hk
   omega
theorem Hp.box (H : Hp w0 S L w) (t : TypeId) (cs : List Value) (v : Value) (hv : v.cells = cs.toArray) :
   ∃ b w', (Instr.box t v).run P w = .ok (.pointer (some ⟨b, 0, none⟩)) w' ∧ Hp w0 S (L ++ [.blk b cs t]) w' :=
 ⟨w.heap.size, _, by simp [Instr.box, newVar, newRow, newObj, hv, Sem.run], H.new cs t⟩
def zeroOf (P : Program) (t : TypeId) : Option (List Value) := ((P.info? t).bind (·.zero)).map (·.cells.toList)
theorem Hp.alloc (H : Hp w0 S L w) (t : TypeId) (cs : List Value) (hz : zeroOf P t = some cs) :
   ∃ b w', (Instr.alloc t true (.tuple #[])).run P w = .ok (.pointer (some ⟨b, 0, none⟩)) w' ∧ Hp w0 S (L ++ [.blk b cs t]) w' := by
 refine ⟨w.heap.size, _, ?_, H.new cs t⟩
 unfold zeroOf at hz
 cases hi : P.info? t with
 | none => simp [hi] at hz
 | some i =>
   cases hzz : i.zero with
   | none => simp [hi, hzz] at hz
   | some z =>
     simp [hi, hzz] at hz
     have hzc : z.cells = cs.toArray := by rw [← hz]
     simp [Instr.alloc, zeroValue, typeInfo, hi, hzz, newVar, newRow, newObj, hzc, Sem.run]
end
end Go.Proofs.Ytcedmbdahbdmaaa
namespace Go.Proofs.Ytcedmbdahbdmaaa
open Go.RowKit
def semAt (ops : Array Oper) (M : FM) (i : Nat) : Option (Sem Next) :=
 match ops[i]? with
 | none => none
 | some o => match gdM ops M o with
   | some true => if known M o then some (execOp (evD M) o) else none
   | _ => none
def dstAt (ops : Array Oper) (i : Nat) : Option Nat := (ops[i]?).bind (·.dst)
def vN (s : Sem Value) : Sem Next := do pure (.value (← s))
def uN (s : Sem Unit) : Sem Next := do s; pure .skip
section
variable {P : Program} {ops : Array Oper} {Q : Exit → Act → World → Prop} {i n : Nat} {M M' : FM} {w w' : World}
theorem semAt_spec {s : Sem Next} (h : semAt ops M i = some s) : ∃ o, ops[i]? = some o ∧ gdM ops M o = some true ∧ known M o = true ∧ execOp (evD M) o = s ∧ dstAt ops i = o.dst := by
 unfold semAt at h
 split at h
 · cases h
 · rename_i o ho
   split at h
   · rename_i hg
     split at h
     · rename_i hk
       injection h with h
       exact ⟨o, ho, hg, hk, h, by simp [dstAt, ho]⟩
     · cases h
   · cases h
theorem putM_bind {d : Option Nat} {v : Value} {ts : List Nat} (hp : (putM n M d v).bind (pick ts) = some M') : ∃ M1, putM n M d v = some M1 ∧ pick ts M1 = some M' := by
 cases h : putM n M d v with
 | none => rw [h] at hp; cases hp
 | some M1 => rw [h] at hp; exact ⟨M1, rfl, hp⟩
theorem GL.semN {s : Sem Next} {v : Value} (hr : s.run P w = .ok (.value v) w') (ts : List Nat) (M' : FM) (hs : semAt ops M i = some s) (hp : (putM n M (dstAt ops i) v).bind (pick ts) = some M')
   {j : Nat} (hj : i + 1 = j) (h : GL P ops Q j n M' w') : GL P ops Q i n M w := by
 subst hj
 obtain ⟨o, ho, hg, hk, he, hd⟩ := semAt_spec hs
 obtain ⟨M1, h1, h2⟩ := putM_bind hp
 rw [hd] at h1
 exact GL.step ho hg (fun F hF hM => by rw [known_exec hM hk, he]; exact hr) h1 (GL.fit h2 h)
theorem GL.sem {s : Sem Value} {v : Value} (hr : s.run P w = .ok v w') (ts : List Nat) (M' : FM) (hs : semAt ops M i = some (vN s)) (hp : (putM n M (dstAt ops i) v).bind (pick ts) = some M')
   {j : Nat} (hj : i + 1 = j) (h : GL P ops Q j n M' w') : GL P ops Q i n M w :=
 GL.semN (by simp [vN, hr]) ts M' hs hp hj h
theorem GL.semU {s : Sem Unit} (hr : s.run P w = .ok () w') (ts : List Nat) (M' : FM) (hs : semAt ops M i = some (uN s)) (hd : dstAt ops i = none) (hp : pick ts M = some M')
   {j : Nat} (hj : i + 1 = j) (h : GL P ops Q j n M' w') : GL P ops Q i n M w := by
 subst hj
 obtain ⟨o, ho, hg, hk, he, hd'⟩ := semAt_spec hs
 rw [hd] at hd'
 intro F hF hM
 rw [drop_at ho]
 refine wpList_step fun K hK => ?_
 rw [gdM_fits hM hg, if_pos rfl]
 unfold Oper.wp
 rw [known_exec hM hk, he]
 have : (uN s).run P w = .ok .skip w' := by simp [uN, hr]
 rw [this]
 show K _ _
 rw [← hd']
 exact hK _ _ (h F hF (hM.pick hp))
theorem GL.call {f : FuncId} {args : Array Value} {R : Ending → World → Prop} (hc : Calls P f args w R) (hs : (semAt ops M i).bind (pev P) = some (.enter f args)) {j : Nat} (hj : i + 1 = j)
   (h : ∀ e w', R e w' → ∃ v, e = .returned v ∧ ∃ ts M', (putM n M (dstAt ops i) v).bind (pick ts) = some M' ∧ GL P ops Q j n M' w') : GL P ops Q i n M w := by
 subst hj
 cases hsm : semAt ops M i with
 | none => rw [hsm] at hs; cases hs
 | some s =>
   rw [hsm] at hs
   obtain ⟨o, ho, hg, hk, he, hd⟩ := semAt_spec hsm
   intro F hF hM
   rw [drop_at ho]
   refine wpList_step fun K hK => ?_
   rw [gdM_fits hM hg, if_pos rfl]
   unfold Oper.wp
   rw [known_exec hM hk, he, pev_run hs w]
   show Calls P f args w _
   refine hc.mono fun e w' hR => ?_
   obtain ⟨v, rfl, ts, M', hp, hG⟩ := h e w' hR
   obtain ⟨M1, h1, h2⟩ := putM_bind hp
   rw [hd] at h1
   have hp' := hM.put (d := o.dst) (v := v) (M' := M1) (by rw [hF]; exact h1)
   show K _ _
   rw [hp'.2.2]
   exact hK _ _ (hG _ (by rw [hp'.2.1, hF]) (hp'.1.pick h2))
def GQ (P : Program) (ops : Array Oper) (C : World → Prop) (Qa : Act → Prop) (i n : Nat) (M : FM) : Prop :=
 ∀ F : Array Value, F.size = n → Fits F M → wpQuiet P ops C Qa (ops.toList.drop i) ⟨F, []⟩
section
variable {C : World → Prop} {Qa : Act → Prop}
theorem GQ.step {o : Oper} {v : Value} (ho : ops[i]? = some o) (hg : gdM ops M o = some true) (hy : ∀ F : Array Value, F.size = n → Fits F M → ∀ w, C w → o.quietAt P ⟨F, []⟩ C w v)
   (hp : putM n M o.dst v = some M') (h : GQ P ops C Qa (i + 1) n M') : GQ P ops C Qa i n M := by
 intro F hF hM
 rw [drop_at ho]
 refine wpQuiet_step fun K hK => ?_
 rw [gdM_fits hM hg, if_pos rfl]
 have hp' := hM.put (d := o.dst) (v := v) (M' := M') (by rw [hF]; exact hp)
 refine ⟨v, hy F hF hM, ?_⟩
 rw [hp'.2.2]
 exact hK _ (h _ (by rw [hp'.2.1, hF]) hp'.1)
theorem GQ.skip_ {o : Oper} (ho : ops[i]? = some o) (hg : gdM ops M o = some false) (hp : putM n M o.dst undef = some M') (h : GQ P ops C Qa (i + 1) n M') : GQ P ops C Qa i n M := by
 intro F hF hM
 rw [drop_at ho]
 refine wpQuiet_step fun K hK => ?_
 rw [gdM_fits hM hg]
 simp only [Bool.false_eq_true, if_false]
 have hp' := hM.put (d := o.dst) (v := undef) (M' := M') (by rw [hF]; exact hp)
 rw [hp'.2.2]
 exact hK _ (h _ (by rw [hp'.2.1, hF]) hp'.1)
theorem GQ.batch_ : ∀ {k i : Nat} {M M' : FM}, batch P ops n k i M = some M' → GQ P ops C Qa (i + k) n M' → GQ P ops C Qa i n M
 | 0, i, M, M', hb, h => by
   simp [batch] at hb
   subst hb
   exact h
 | k + 1, i, M, M', hb, h => by
   have h' : GQ P ops C Qa (i + 1 + k) n M' := by rwa [show i + 1 + k = i + (k + 1) from by omega]
   unfold batch at hb
   split at hb
   · cases hb
   · rename_i o ho
     split at hb
     · cases hb
     · rename_i hg
       split at hb
       · rename_i M1 hp
         exact GQ.skip_ ho hg hp (GQ.batch_ hb h')
       · cases hb
     · rename_i hg
       split at hb
       · rename_i hk
         split at hb
         · rename_i v hv
           split at hb
           · rename_i M1 hp
             refine GQ.step ho hg (fun F hF hM w _ => ?_) hp (GQ.batch_ hb h')
             unfold Oper.quietAt
             rw [known_exec hM hk]
             unfold opPev at hv
             split at hv
             · rename_i u hu
               injection hv with hv
               subst hv
               rw [pev_run hu w]
               exact ⟨rfl, rfl⟩
             · cases hv
           · cases hb
         · cases hb
       · cases hb
theorem GQ.fit {ts : List Nat} (hp : pick ts M = some M') (h : GQ P ops C Qa i n M') : GQ P ops C Qa i n M := fun F hF hM => h F hF (hM.pick hp)
theorem GQ.run (k : Nat) (ts : List Nat) (M' : FM) {j : Nat} (hb : (batch P ops n k i M).bind (pick ts) = some M') (hj : i + k = j) (h : GQ P ops C Qa j n M') : GQ P ops C Qa i n M := by
 subst hj
 cases hm : batch P ops n k i M with
 | none => rw [hm] at hb; cases hb
 | some M1 =>
   rw [hm] at hb
   exact GQ.batch_ hm (GQ.fit hb h)
theorem GQ.eq {M' : FM} (he : M = M') (h : GQ P ops C Qa i n M') : GQ P ops C Qa i n M := he ▸ h
theorem GQ.semN {s : Sem Next} {v : Value} (hr : ∀ w, C w → s.run P w = .ok (.value v) w) (ts : List Nat) (M' : FM) (hs : semAt ops M i = some s) (hp : (putM n M (dstAt ops i) v).bind (pick ts) = some M')
   {j : Nat} (hj : i + 1 = j) (h : GQ P ops C Qa j n M') : GQ P ops C Qa i n M := by
 subst hj
 obtain ⟨o, ho, hg, hk, he, hd⟩ := semAt_spec hs
 obtain ⟨M1, h1, h2⟩ := putM_bind hp
 rw [hd] at h1
 refine GQ.step ho hg (fun F hF hM w hw => ?_) h1 (GQ.fit h2 h)
 unfold Oper.quietAt
 rw [known_exec hM hk, he, hr w hw]
 exact ⟨rfl, rfl⟩
theorem GQ.sem {s : Sem Value} {v : Value} (hr : ∀ w, C w → s.run P w = .ok v w) (ts : List Nat) (M' : FM) (hs : semAt ops M i = some (vN s)) (hp : (putM n M (dstAt ops i) v).bind (pick ts) = some M')
   {j : Nat} (hj : i + 1 = j) (h : GQ P ops C Qa j n M') : GQ P ops C Qa i n M :=
 GQ.semN (fun w hw => by simp [vN, hr w hw]) ts M' hs hp hj h
theorem GQ.done (hi : Nat.ble ops.size i = true) (h : ∀ F : Array Value, F.size = n → Fits F M → Qa ⟨F, []⟩) : GQ P ops C Qa i n M := by
 intro F hF hM
 rw [List.drop_eq_nil_of_le (by simpa using Nat.le_of_ble_eq_true hi)]
 exact wpQuiet_nil (h F hF hM)
end
theorem G.draw {id : Nat} {w0 : World} {S : List Nat} {L : List Ent} (H : Hp w0 S L w) (hm : P.follows .mixedOrders = true) (hB : Region.lexB .any ops = true)
   (h : GQ P ops (Hp w0 S L) (fun a' => ∀ w', Hp w0 S L w' → Q .normal a' w') 0 n M) : G P (.region id ops true) Q n M w := fun F hF hM =>
 wp_region_quiet hm hB H.drew (by simpa using h F hF hM)
def GS (P : Program) (ops : Array Oper) (w : World) (Qa : Act → Prop) (k : Nat) (i n : Nat) (M : FM) : Prop :=
 ∀ F : Array Value, F.size = n → Fits F M → wpStill P ops w Qa ((ops.toList.take k).drop i) ⟨F, []⟩
section
variable {Qa : Act → Prop} {k : Nat}
theorem take_at {o : Oper} (ho : ops[i]? = some o) (hk : Nat.blt i k = true) : (ops.toList.take k).drop i = o :: (ops.toList.take k).drop (i + 1) := by
 have hlt : i < k := by simpa [Nat.blt_eq] using hk
 have h : (ops.toList.take k)[i]? = some o := by
   rw [List.getElem?_take_of_lt hlt]
   simpa using ho
 have hl : i < (ops.toList.take k).length := (List.getElem?_eq_some_iff.1 h).1
 rw [List.drop_eq_getElem_cons hl]
 congr 1
 exact (List.getElem?_eq_some_iff.1 h).2
theorem GS.step {o : Oper} {v : Value} (ho : ops[i]? = some o) (hk : Nat.blt i k = true) (hg : gdM ops M o = some true) (hy : ∀ F : Array Value, F.size = n → Fits F M → (execOp (⟨F, []⟩ : Act).eval o).run P w = .ok (.value v) w)
   (hp : putM n M o.dst v = some M') (h : GS P ops w Qa k (i + 1) n M') : GS P ops w Qa k i n M := by
 intro F hF hM
 rw [take_at ho hk]
 refine wpStill_step fun K hK => ?_
 rw [gdM_fits hM hg, if_pos rfl]
 have hp' := hM.put (d := o.dst) (v := v) (M' := M') (by rw [hF]; exact hp)
 unfold Oper.still
 rw [hy F hF hM]
 refine ⟨rfl, ?_⟩
 rw [hp'.2.2]
 exact hK _ (h _ (by rw [hp'.2.1, hF]) hp'.1)
theorem GS.skip_ {o : Oper} (ho : ops[i]? = some o) (hk : Nat.blt i k = true) (hg : gdM ops M o = some false) (hp : putM n M o.dst undef = some M') (h : GS P ops w Qa k (i + 1) n M') : GS P ops w Qa k i n M := by
 intro F hF hM
 rw [take_at ho hk]
 refine wpStill_step fun K hK => ?_
 rw [gdM_fits hM hg]
 simp only [Bool.false_eq_true, if_false]
 have hp' := hM.put (d := o.dst) (v := undef) (M' := M') (by rw [hF]; exact hp)
 rw [hp'.2.2]
 exact hK _ (h _ (by rw [hp'.2.1, hF]) hp'.1)
theorem GS.batch_ : ∀ {m i : Nat} {M M' : FM}, batch P ops n m i M = some M' → i + m ≤ k → GS P ops w Qa k (i + m) n M' → GS P ops w Qa k i n M
 | 0, i, M, M', hb, _, h => by
   simp [batch] at hb
   subst hb
   exact h
 | m + 1, i, M, M', hb, hk, h => by
   have h' : GS P ops w Qa k (i + 1 + m) n M' := by rwa [show i + 1 + m = i + (m + 1) from by omega]
   have hik : Nat.blt i k = true := by simp [Nat.blt_eq]; omega
   unfold batch at hb
   split at hb
   · cases hb
   · rename_i o ho
     split at hb
     · cases hb
     · rename_i hg
       split at hb
       · rename_i M1 hp
         exact GS.skip_ ho hik hg hp (GS.batch_ hb (by omega) h')
       · cases hb
     · rename_i hg
       split at hb
       · rename_i hkn
         split at hb
         · rename_i v hv
           split at hb
           · rename_i M1 hp
             refine GS.step ho hik hg (fun F hF hM => ?_) hp (GS.batch_ hb (by omega) h')
             rw [known_exec hM hkn]
             unfold opPev at hv
             split at hv
             · rename_i u hu
               injection hv with hv
               subst hv
               exact pev_run hu w
             · cases hv
           · cases hb
         · cases hb
       · cases hb
theorem GS.fit {ts : List Nat} (hp : pick ts M = some M') (h : GS P ops w Qa k i n M') : GS P ops w Qa k i n M := fun F hF hM => h F hF (hM.pick hp)
theorem GS.run (m : Nat) (ts : List Nat) (M' : FM) {j : Nat} (hb : (batch P ops n m i M).bind (pick ts) = some M') (hj : i + m = j) (hk : Nat.ble j k = true) (h : GS P ops w Qa k j n M') : GS P ops w Qa k i n M := by
 subst hj
 cases hm : batch P ops n m i M with
 | none => rw [hm] at hb; cases hb
 | some M1 =>
   rw [hm] at hb
   exact GS.batch_ hm (Nat.le_of_ble_eq_true hk) (GS.fit hb h)
theorem GS.semN {s : Sem Next} {v : Value} (hr : s.run P w = .ok (.value v) w) (ts : List Nat) (M' : FM) (hs : semAt ops M i = some s) (hp : (putM n M (dstAt ops i) v).bind (pick ts) = some M')
   {j : Nat} (hj : i + 1 = j) (hk : Nat.ble j k = true) (h : GS P ops w Qa k j n M') : GS P ops w Qa k i n M := by
 subst hj
 obtain ⟨o, ho, hg, hkn, he, hd⟩ := semAt_spec hs
 obtain ⟨M1, h1, h2⟩ := putM_bind hp
 rw [hd] at h1
 have hlt := Nat.le_of_ble_eq_true hk
 exact GS.step ho (by simp [Nat.blt_eq]; omega) hg (fun F hF hM => by rw [known_exec hM hkn, he]; exact hr) h1 (GS.fit h2 h)
theorem GS.sem {s : Sem Value} {v : Value} (hr : s.run P w = .ok v w) (ts : List Nat) (M' : FM) (hs : semAt ops M i = some (vN s)) (hp : (putM n M (dstAt ops i) v).bind (pick ts) = some M')
   {j : Nat} (hj : i + 1 = j) (hk : Nat.ble j k = true) (h : GS P ops w Qa k j n M') : GS P ops w Qa k i n M :=
 GS.semN (by simp [vN, hr]) ts M' hs hp hj hk h
theorem GS.tail (hi : i = k) (h : GL P ops Q k n M w) : GS P ops w (fun a' => wpList P ops Q (ops.toList.drop k) a' w) k i n M := by
 subst hi
 intro F hF hM
 have : (ops.toList.take i).drop i = [] := List.drop_eq_nil_of_le (by simp; omega)
 rw [this]
 exact wpStill_nil (h F hF hM)
end
theorem G.tail {id : Nat} (k : Nat) (hm : P.follows .mixedOrders = true) (hB : Region.lexTailB .any ops k = true)
   (h : GS P ops { w with drawn := w.drawn + 1 } (fun a' => wpList P ops Q (ops.toList.drop k) a' { w with drawn := w.drawn + 1 }) k 0 n M) : G P (.region id ops true) Q n M w := fun F hF hM => by
 have := wp_region_still_tail (P := P) (Q := Q) (id := id) (l := ops.toList) k hm (by simpa using hB) (by simpa using h F hF hM)
 simpa using this
end
end Go.Proofs.Ytcedmbdahbdmaaa
namespace Go.Proofs.Ytcedmbdahbdmaaa
open Go.RowKit
section
variable {P : Program} {n : Nat} {M : FM} {w w' : World}
def RV (P : Program) (M : FM) (w : World) : ResultVar → Value → Prop
 | .tmp t, v => lk M t = some v
 | .cell a ty, v => ∃ ad, lk M a = some (.pointer (some ad)) ∧ (Instr.loadAt ty (.pointer (some ad))).run P w = .ok v w
theorem RV.tmp {t : Nat} {v : Value} (h : lk M t = some v) : RV P M w (.tmp t) v := h
theorem RV.cell {a ty : Nat} {ad : Addr} {v : Value} (h1 : lk M a = some (.pointer (some ad))) (h2 : (Instr.loadAt ty (.pointer (some ad))).run P w = .ok v w) : RV P M w (.cell a ty) v := ⟨ad, h1, h2⟩
def resOf (F : Array Value) : ResultVar → Sem Value
 | .tmp t => pure (F.getD t undef)
 | .cell a t => do loadVar t (← asAddr (F.getD a undef))
theorem RV.run {r : ResultVar} {v : Value} {F : Array Value} (hM : Fits F M) (h : RV P M w r v) : (resOf F r).run P w = .ok v w := by
 cases r with
 | tmp t =>
   have := hM.lk h
   simp [resOf, this]
 | cell a ty =>
   obtain ⟨ad, h1, h2⟩ := h
   have := hM.lk h1
   simp only [Instr.loadAt, Instr.sureAddr, Sem.run_bind, Sem.run_pure, Result.andThen_ok] at h2
   simp [resOf, this, asAddr, h2]
theorem results_resOf (fn : Func) (F : Array Value) : results fn F = (do
   let vs ← fn.results.mapM (resOf F)
   pure (if h : vs.size = 1 then vs[0] else .tuple vs)) := by
 unfold results
 congr 1
theorem run_mapM1 {α : Type} {f : α → Sem Value} {r : α} {v : Value} (h1 : (f r).run P w = .ok v w) : (#[r].mapM f).run P w = .ok #[v] w := by simp [h1]
theorem run_mapM2 {α : Type} {f : α → Sem Value} {r s : α} {v x : Value} (h1 : (f r).run P w = .ok v w) (h2 : (f s).run P w = .ok x w) : (#[r, s].mapM f).run P w = .ok #[v, x] w := by simp [h1, h2]
theorem bodyPost_1 {fn : Func} {R : Ending → World → Prop} {r : ResultVar} {v : Value} (hr : fn.results = #[r]) (hv : RV P M w r v) (h : R (.returned v) w) :
   ∀ F : Array Value, F.size = n → Fits F M → bodyPost P fn R .ret ⟨F, []⟩ w := fun F _ hM =>
 ⟨rfl, v, by rw [results_resOf, hr]; simp only [Sem.run_bind, run_mapM1 (hv.run hM), Result.andThen_ok]; rfl, h⟩
theorem bodyPost_2 {fn : Func} {R : Ending → World → Prop} {r s : ResultVar} {v x : Value} (hr : fn.results = #[r, s]) (hv : RV P M w r v) (hx : RV P M w s x) (h : R (.returned (.tuple #[v, x])) w) :
   ∀ F : Array Value, F.size = n → Fits F M → bodyPost P fn R .ret ⟨F, []⟩ w := fun F _ hM =>
 ⟨rfl, .tuple #[v, x], by rw [results_resOf, hr]; simp only [Sem.run_bind, run_mapM2 (hv.run hM) (hx.run hM), Result.andThen_ok]; rfl, h⟩
theorem bodyPost_0 {fn : Func} {R : Ending → World → Prop} (hr : fn.results = #[]) (h : R (.returned (.tuple #[])) w) :
   ∀ F : Array Value, F.size = n → Fits F M → bodyPost P fn R .ret ⟨F, []⟩ w := bodyPost_tmps0 hr h
theorem GL.k {ops : Array Oper} {Q Q' : Exit → Act → World → Prop} {K : Act → World → Prop} {b : Code} {i : Nat} (hi : Nat.ble ops.size i = true) (hK : ∀ a w, b.wp P Q' a w → K a w) (hq : ∀ a w, K a w → Q .normal a w)
   (h : G P b Q' n M w) : GL P ops Q i n M w := GL.done hi fun F hF hM => hq _ _ (hK _ _ (h F hF hM))
theorem G.skipK {Q Q' : Exit → Act → World → Prop} {K : Act → World → Prop} {b : Code} (hK : ∀ a w, b.wp P Q' a w → K a w) (hq : ∀ a w, K a w → Q .normal a w)
   (h : G P b Q' n M w) : G P .skip Q n M w := fun F hF hM => wp_skip (hq _ _ (hK _ _ (h F hF hM)))
theorem G.exitK {Q Q' : Exit → Act → World → Prop} {K : Act → World → Prop} {b : Code} {id : Nat} (hK : ∀ a w, b.wp P Q' a w → K a w) (hq : ∀ a w, K a w → Q (.exit id) a w)
   (h : G P b Q' n M w) : G P (.exit id) Q n M w := fun F hF hM => wp_exit (hq _ _ (hK _ _ (h F hF hM)))
theorem G.seqK {Q : Exit → Act → World → Prop} {a b : Code} (h : ∀ K : Act → World → Prop, (∀ a w, b.wp P Q a w → K a w) → G P a (Exit.then K Q) n M w) : G P (.seq a b) Q n M w := fun F hF hM =>
 wp_seq_k fun K hK => h K hK F hF hM
theorem GQ.k {ops : Array Oper} {C : World → Prop} {Q Q' : Exit → Act → World → Prop} {K : Act → World → Prop} {b : Code} {i : Nat} (hi : Nat.ble ops.size i = true) (hK : ∀ a w, b.wp P Q' a w → K a w) (hq : ∀ a w, K a w → Q .normal a w)
   (h : ∀ w, C w → G P b Q' n M w) : GQ P ops C (fun a' => ∀ w', C w' → Q .normal a' w') i n M := GQ.done hi fun F hF hM w hw => hq _ _ (hK _ _ (h w hw F hF hM))
def arrOf (P : Program) (t : TypeId) : Option (Nat × Nat) :=
 match P.underlying t with
 | some (.array len e) => (P.info? e).map fun i => (len, i.size)
 | _ => none
def slcOf (P : Program) (t : TypeId) : Option Nat :=
 match P.underlying t with
 | some (.slice e) => (P.info? e).map (·.size)
 | _ => none
theorem arrOf_spec {t len sz : Nat} (h : arrOf P t = some (len, sz)) : ∃ e, P.underlying t = some (.array len e) ∧ ∀ w, (sizeOf e).run P w = .ok sz w := by
 unfold arrOf at h
 split at h
 · rename_i l e hu
   cases hi : P.info? e with
   | none => simp [hi] at h
   | some i =>
     simp [hi] at h
     exact ⟨e, by rw [hu, h.1], fun w => by simp [sizeOf, typeInfo, hi, h.2]⟩
 · cases h
theorem slcOf_spec {t sz : Nat} (h : slcOf P t = some sz) : ∃ e, P.underlying t = some (.slice e) ∧ ∀ w, (sizeOf e).run P w = .ok sz w := by
 unfold slcOf at h
 split at h
 · rename_i e hu
   cases hi : P.info? e with
   | none => simp [hi] at h
   | some i =>
     simp [hi] at h
     exact ⟨e, hu, fun w => by simp [sizeOf, typeInfo, hi, h]⟩
 · cases h
theorem addr_add (b o j : Nat) : (⟨b, o, none⟩ : Addr).add j = ⟨b, o + j, none⟩ := by unfold Addr.add; split <;> simp_all
theorem run_idxArr {t len sz b o : Nat} {k : IntKind} {i : Int} {j : Nat} (ht : arrOf P t = some (len, sz)) (hi : i = (j : Int)) (hj : j < len) :
   (Instr.indexAt t (.pointer (some ⟨b, o, none⟩)) (.int k i)).run P w = .ok (.pointer (some ⟨b, o + j * sz, none⟩)) w := by
 obtain ⟨e, hu, hs⟩ := arrOf_spec ht
 subst hi
 have h1 : (0 : Int) ≤ (j : Int) ∧ (j : Int) < (len : Int) := ⟨by omega, by omega⟩
 simp only [Instr.indexAt, asIntOf, Sem.run_bind, Sem.run_pure, Result.andThen_ok, run_underlying hu, Instr.sureAddr]
 rw [if_pos h1]
 simp [hs, addr_add]
theorem run_idxSl {t sz : Nat} {a : Addr} {len cap : Nat} {k : IntKind} {i : Int} {j : Nat} (ht : slcOf P t = some sz) (hi : i = (j : Int)) (hj : j < len) :
   (Instr.indexAt t (.slice (some a) len cap) (.int k i)).run P w = .ok (.pointer (some (a.add (j * sz)))) w := by
 obtain ⟨e, hu, hs⟩ := slcOf_spec ht
 subst hi
 have h1 : (0 : Int) ≤ (j : Int) ∧ (j : Int) < (len : Int) := ⟨by omega, by omega⟩
 simp only [Instr.indexAt, asIntOf, Sem.run_bind, Sem.run_pure, Result.andThen_ok, run_underlying hu]
 rw [if_pos h1]
 simp [hs]
theorem run_shl {op : BinOp} {k k' : IntKind} {x y : Int} {t : TypeId} (ho : op = .shl) (hy : 0 ≤ y) (w : World) : (binOp op t (.int k x) (.int k' y)).run P w = .ok (.int k (k.wrap (x * 2 ^ (min y.toNat k.bits)))) w := by
 subst ho
 have : ¬ y < 0 := by omega
 simp [binOp, Op.shift, this]
theorem run_shr {op : BinOp} {k k' : IntKind} {x y : Int} {t : TypeId} (ho : op = .shr) (hy : 0 ≤ y) (w : World) : (binOp op t (.int k x) (.int k' y)).run P w = .ok (.int k (x.fdiv (2 ^ (min y.toNat k.bits)))) w := by
 subst ho
 have : ¬ y < 0 := by omega
 simp [binOp, Op.shift, this]
theorem run_rem {k : IntKind} {x y : Int} {t : TypeId} (hy : y ≠ 0) (w : World) : (binOp .rem t (.int k x) (.int k y)).run P w = .ok (.int k (x.tmod y)) w := by
 simp [binOp, Op.intDiv, hy]
end
theorem in_i64 {x : Int} (h : -9223372036854775808 ≤ x ∧ x ≤ 9223372036854775807) : IntKind.i64.wrap x = x := by rw [IntKind.wrap_i64]; omega
theorem in_u64 {x : Int} (h : 0 ≤ x ∧ x ≤ 18446744073709551615) : IntKind.u64.wrap x = x := by rw [IntKind.wrap_u64]; omega
theorem in_u32 {x : Int} (h : 0 ≤ x ∧ x ≤ 4294967295) : IntKind.u32.wrap x = x := by rw [IntKind.wrap_u32]; omega
theorem in_u8 {x : Int} (h : 0 ≤ x ∧ x ≤ 255) : IntKind.u8.wrap x = x := by rw [IntKind.wrap_u8]; omega
end Go.Proofs.Ytcedmbdahbdmaaa
namespace Go.Proofs.Ytcedmbdahbdmaaa
open Go.RowKit
def lst (N : Nat) : Nat → Array Bool
 | 0 => Array.replicate N false
 | i + 1 => (lst N i).setIfInBounds i true
def GH (P : Program) (ops : Array Oper) (Q : Exit → Act → World → Prop) (S : World → Prop) (i n : Nat) (M : FM) (w : World) : Prop :=
 ∀ F : Array Value, F.size = n → Fits F M → ∀ fuel, fuel + i = ops.size → Region.lexFrom .any ops fuel i (lst ops.size i) = true → Region.noSelect ops = true →
   (∀ c (a : Act) d v w, Q (.panic c) (a.put d v) w → Q (.panic c) a w) → wpAnyH P .any ops Q S fuel (lst ops.size i) ⟨F, []⟩ w
section
variable {P : Program} {ops : Array Oper} {Q : Exit → Act → World → Prop} {S : World → Prop} {i n : Nat} {M M' : FM} {w w' : World}
theorem ops_lt {o : Oper} (ho : ops[i]? = some o) : i < ops.size := (Array.getElem?_eq_some_iff.1 ho).1
theorem GH.take {o : Oper} {v : Value} (hS : S w) (ho : ops[i]? = some o) (hy : ∀ F : Array Value, F.size = n → Fits F M → YieldsIf P ops S o v ⟨F, []⟩) (hp : putM n M o.dst v = some M')
   (h : GH P ops Q S (i + 1) n M' w) : GH P ops Q S i n M w := by
 intro F hF hM fuel hfuel hlex hsel hQ
 cases fuel with
 | zero => have := ops_lt ho; omega
 | succ fuel =>
   simp only [Region.lexFrom, Bool.and_eq_true] at hlex
   obtain ⟨⟨hr, hf⟩, hlex⟩ := hlex
   have hp' := hM.put (d := o.dst) (v := v) (M' := M') (by rw [hF]; exact hp)
   refine wpAnyH_take ho hsel hf hr (fun c a w h => hQ c a _ _ w h) (hy F hF hM) hS ?_
   rw [hp'.2.2]
   exact h _ (by rw [hp'.2.1, hF]) hp'.1 fuel (by omega) hlex hsel hQ
theorem GH.batch_ (hS : S w) : ∀ {k i : Nat} {M M' : FM}, batch P ops n k i M = some M' → GH P ops Q S (i + k) n M' w → GH P ops Q S i n M w
 | 0, i, M, M', hb, h => by
   simp [batch] at hb
   subst hb
   exact h
 | k + 1, i, M, M', hb, h => by
   have h' : GH P ops Q S (i + 1 + k) n M' w := by rwa [show i + 1 + k = i + (k + 1) from by omega]
   unfold batch at hb
   split at hb
   · cases hb
   · rename_i o ho
     split at hb
     · cases hb
     · rename_i hg
       split at hb
       · rename_i M1 hp
         exact GH.take hS ho (fun F hF hM => .inr ⟨gdM_fits hM hg, rfl⟩) hp (GH.batch_ hS hb h')
       · cases hb
     · rename_i hg
       split at hb
       · rename_i hk
         split at hb
         · rename_i v hv
           split at hb
           · rename_i M1 hp
             refine GH.take hS ho (fun F hF hM => .inl ⟨gdM_fits hM hg, fun w _ => ?_⟩) hp (GH.batch_ hS hb h')
             rw [known_exec hM hk]
             unfold opPev at hv
             split at hv
             · rename_i u hu
               injection hv with hv
               subst hv
               exact pev_run hu w
             · cases hv
           · cases hb
         · cases hb
       · cases hb
theorem GH.fit {ts : List Nat} (hp : pick ts M = some M') (h : GH P ops Q S i n M' w) : GH P ops Q S i n M w := fun F hF hM => h F hF (hM.pick hp)
theorem GH.run (k : Nat) (ts : List Nat) (M' : FM) {j : Nat} (hb : (batch P ops n k i M).bind (pick ts) = some M') (hj : i + k = j) (hS : S w) (h : GH P ops Q S j n M' w) : GH P ops Q S i n M w := by
 subst hj
 cases hm : batch P ops n k i M with
 | none => rw [hm] at hb; cases hb
 | some M1 =>
   rw [hm] at hb
   exact GH.batch_ hS hm (GH.fit hb h)
theorem GH.made {s : Sem Value} {v : Value} (hr : s.run P w = .ok v w') (ts : List Nat) (M' : FM) (hs : semAt ops M i = some (vN s)) (hp : (putM n M (dstAt ops i) v).bind (pick ts) = some M')
   {j : Nat} (hj : i + 1 = j) (hone : Region.ready .any ops (lst ops.size i) = [i]) (hS : S w') (h : GH P ops Q S j n M' w') : GH P ops Q S i n M w := by
 subst hj
 obtain ⟨o, ho, hg, hk, he, hd⟩ := semAt_spec hs
 obtain ⟨M1, h1, h2⟩ := putM_bind hp
 rw [hd] at h1
 intro F hF hM fuel hfuel hlex hsel hQ
 cases fuel with
 | zero => have := ops_lt ho; omega
 | succ fuel =>
   simp only [Region.lexFrom, Bool.and_eq_true] at hlex
   refine wpAnyH_all hone (by simp) fun k hk' => ?_
   simp at hk'
   subst hk'
   unfold wpOp
   simp only [ho]
   rw [gdM_fits hM hg, if_pos rfl]
   refine .inl ?_
   unfold Oper.wp
   rw [known_exec hM hk, he]
   have : (vN s).run P w = .ok (.value v) w' := by simp [vN, hr]
   rw [this]
   have hp' := hM.put (d := o.dst) (v := v) (M' := M1) (by rw [hF]; exact h1)
   show S w' ∧ _
   rw [hp'.2.2]
   exact ⟨hS, h _ (by rw [hp'.2.1, hF]) (hp'.1.pick h2) fuel (by omega) hlex.2 hsel hQ⟩
theorem GH.done (hi : i = ops.size) (h : ∀ F : Array Value, F.size = n → Fits F M → Q .normal ⟨F, []⟩ w) : GH P ops Q S i n M w := by
 intro F hF hM fuel hfuel hlex _ _
 have h0 : fuel = 0 := by omega
 subst h0
 exact ⟨by simpa [Region.lexFrom] using hlex, h F hF hM⟩
def Holds (L : List Ent) (w : World) : Prop := ∀ e, e ∈ L → e.holds w
theorem Hp.holds {w0 : World} {S0 : List Nat} {L L' : List Ent} (H : Hp w0 S0 L w) (h : ∀ e, e ∈ L' → e ∈ L) : Holds L' w := fun e he => H.ents e (h e he)
theorem Holds.ld {L : List Ent} (H : Holds L w) (i : Nat) {b o : Nat} {cs : List Value} {t ty : TypeId} {v : Value} (hL : L[i]? = some (.blk b cs t)) (hs : scal P ty = true) (hv : cs[o]? = some v) :
   (Instr.loadAt ty (.pointer (some ⟨b, o, none⟩))).run P w = .ok v w := run_ld1 hs (by rw [Blk.cell (t := t) (H _ (List.mem_of_getElem? hL))]; exact hv)
theorem Holds.ldA {L : List Ent} (H : Holds L w) (i : Nat) {b o : Nat} {cs sub : List Value} {t ty m : TypeId} (hL : L[i]? = some (.blk b cs t)) (hs : aggSz P ty = some m) (hsub : (cs.drop o).take m = sub) (hl : sub.length = m) :
   (Instr.loadAt ty (.pointer (some ⟨b, o, none⟩))).run P w = .ok (.agg sub.toArray) w := run_ldA hs (H _ (List.mem_of_getElem? hL)) hsub hl
end
end Go.Proofs.Ytcedmbdahbdmaaa
namespace Go.Proofs.Ytcedmbdahbdmaaa
open Go.RowKit
section
variable {P : Program} {w0 w w' : World} {S : List Nat} {L : List Ent}
def RdS (w : World) (A : Option Addr) (xs : List Value) : Prop := xs = [] ∨ ∃ a, A = some a ∧ a.block < w.heap.size ∧ ∀ j v, xs[j]? = some v → w.cell? (a.add j) = some v
theorem add_block (a : Addr) (n : Nat) : (a.add n).block = a.block := by unfold Addr.add; split <;> rfl
theorem add_add (a : Addr) (i j : Nat) : (a.add i).add j = a.add (i + j) := by
 unfold Addr.add
 by_cases hi : i = 0 <;> by_cases hj : j = 0 <;> simp [hi, hj, Nat.add_assoc]
theorem RdS.nil (w : World) (A : Option Addr) : RdS w A [] := .inl rfl
theorem RdS.below {A : Option Addr} {xs : List Value} (h : RdS w A xs) (hb : Below w.heap.size w w') : RdS w' A xs := by
 rcases h with h | ⟨a, hA, ha, hc⟩
 · exact .inl h
 · exact .inr ⟨a, hA, Nat.lt_of_lt_of_le ha hb.size, fun j v hv => by rw [hb.cell (by rw [add_block]; exact ha)]; exact hc j v hv⟩
theorem RdS.hp {A : Option Addr} {xs : List Value} (h : RdS w0 A xs) (H : Hp w0 [] L w) : RdS w A xs := h.below H.below
theorem RdS.blk {b : Nat} {cs : List Value} {t : TypeId} (h : Blk w b cs t) (o n : Nat) {xs : List Value} (hx : (cs.drop o).take n = xs) : RdS w (some ⟨b, o, none⟩) xs := by
 refine .inr ⟨_, rfl, h.lt, fun j v hv => ?_⟩
 rw [addr_add, h.cell, ← hv, ← hx]
 have hj : j < n := by
   rw [← hx] at hv
   have := (List.getElem?_eq_some_iff.1 hv).1
   simp at this
   omega
 rw [List.getElem?_take_of_lt hj, List.getElem?_drop]
theorem RdS.row {A : Option Addr} {n c e : Nat} {xs : List Value} {b0 : Nat} (h : w.ownsRow b0 e 1 (.slice A n c) n xs) : RdS w A xs := by
 rcases h.2 with ⟨h0, hn⟩ | ⟨g, cap, cur, hv, _, hh, hnc, _, hsz, ht⟩
 · left
   have := h.1
   rw [hn] at this
   exact List.eq_nil_of_length_eq_zero (by simpa using this)
 · injection hv with hA
   subst hA
   refine .inr ⟨_, rfl, (Array.getElem?_eq_some_iff.1 hh).1, fun j v hv => ?_⟩
   rw [addr_add]
   have hj : j < n := by
     have := (List.getElem?_eq_some_iff.1 hv).1
     have := h.1
     omega
   rw [← ht, List.getElem?_take_of_lt (by omega)] at hv
   simp only [World.cell?, hh]
   simpa using hv
theorem Hp.rdRow (H : Hp w0 S L w) (i : Nat) {A : Option Addr} {n c e : Nat} {xs : List Value} (hL : L[i]? = some (.row A n c e 1 xs)) : RdS w A xs := RdS.row (H.rowAt i hL)
theorem Hp.rdBlk (H : Hp w0 S L w) (i : Nat) {b o : Nat} {cs : List Value} {t : TypeId} (n : Nat) {xs : List Value} (hL : L[i]? = some (.blk b cs t)) (hx : (cs.drop o).take n = xs) : RdS w (some ⟨b, o, none⟩) xs := RdS.blk (H.blkAt i hL) o n hx
theorem RdS.cell {A : Option Addr} {xs : List Value} (h : RdS w A xs) {j : Nat} {v : Value} (hv : xs[j]? = some v) : ∃ a, A = some a ∧ w.cell? (a.add j) = some v := by
 rcases h with h | ⟨a, hA, _, hc⟩
 · subst h
   simp at hv
 · exact ⟨a, hA, hc j v hv⟩
theorem RdS.take {A : Option Addr} {xs : List Value} (h : RdS w A xs) (n : Nat) : RdS w A (xs.take n) := by
 rcases h with h | ⟨a, hA, ha, hc⟩
 · subst h
   exact .inl (by simp)
 · refine .inr ⟨a, hA, ha, fun j v hv => hc j v ?_⟩
   have := (List.getElem?_eq_some_iff.1 hv).1
   rwa [List.getElem?_take_of_lt (by simp at this; omega)] at hv
theorem RdS.drop {A : Option Addr} {xs : List Value} {cap : Nat} (h : RdS w A xs) (k : Nat) (hcap : xs.length ≤ cap) : RdS w (if cap = k then A else A.map (·.add k)) (xs.drop k) := by
 by_cases hk : xs.length ≤ k
 · exact .inl (List.drop_eq_nil_of_le hk)
 · rcases h with h | ⟨a, hA, ha, hc⟩
   · subst h
     simp at hk
   · rw [if_neg (by omega), hA]
     refine .inr ⟨_, rfl, by rw [add_block]; exact ha, fun j v hv => ?_⟩
     rw [add_add]
     exact hc _ _ (by rw [← hv, List.getElem?_drop])
theorem RdS.load {A : Option Addr} {xs : List Value} (h : RdS w A xs) {a : Addr} (hA : A = some a) : (loadCells a xs.length).run P w = .ok xs.toArray w := by
 refine run_loadCells_list (P := P) w a xs (fun j v hv => ?_)
 obtain ⟨a', ha', hc⟩ := h.cell hv
 rw [hA] at ha'
 injection ha' with ha'
 subst ha'
 exact hc
def by8 (bs : List UInt8) : List Value := bs.map fun b => .int .u8 (b.toNat : Int)
theorem by8_length (bs : List UInt8) : (by8 bs).length = bs.length := by simp [by8]
theorem by8_append (a b : List UInt8) : by8 (a ++ b) = by8 a ++ by8 b := by simp [by8]
theorem by8_one (bs : List UInt8) : ∀ v ∈ by8 bs, v.oneCell' = true := by
 intro v hv
 simp [by8] at hv
 obtain ⟨b, _, rfl⟩ := hv
 rfl
theorem by8_get (bs : List UInt8) (j : Nat) : (by8 bs)[j]? = (bs[j]?).map fun b => .int .u8 (b.toNat : Int) := by simp [by8]
def strOf (bs : List UInt8) : ByteArray := ⟨bs.toArray⟩
theorem strOf_toList (bs : List UInt8) : (strOf bs).toList = bs := by simp [strOf]
theorem strOf_size (bs : List UInt8) : (strOf bs).size = bs.length := by simp [strOf, ByteArray.size]
def isBytes (P : Program) (t : TypeId) : Bool :=
 match P.underlying t with
 | some (.slice e) => match P.underlying e with
   | some (.int .u8) => true
   | _ => false
 | _ => false
def isStr (P : Program) (t : TypeId) : Bool :=
 match P.underlying t with
 | some .string => true
 | _ => false
theorem isBytes_spec {t : TypeId} (h : isBytes P t = true) : ∃ e, P.underlying t = some (.slice e) ∧ P.underlying e = some (.int .u8) := by
 unfold isBytes at h
 split at h
 · rename_i e he
   split at h
   · exact ⟨e, he, by assumption⟩
   · cases h
 · cases h
theorem isStr_spec {t : TypeId} (h : isStr P t = true) : P.underlying t = some .string := by
 unfold isStr at h
 split at h
 · assumption
 · cases h
theorem foldl_push (l : List UInt8) : ∀ s : ByteArray, (l.map fun b => (b.toNat : Int)).foldl (fun r n => r.push (UInt8.ofNat n.toNat)) s = ⟨s.data ++ l.toArray⟩ := by
 induction l with
 | nil => intro s; simp
 | cons b l ih =>
   intro s
   simp only [List.map_cons, List.foldl_cons]
   rw [ih]
   have : (s.push (UInt8.ofNat ((b.toNat : Int)).toNat)).data = s.data.push b := by
     show s.data.push _ = _
     simp
   rw [this]
   simp
theorem run_toStr {src dst : TypeId} {A : Option Addr} {bs : List UInt8} {n c : Nat} (hs : isBytes P src = true) (hd : isStr P dst = true) (h : RdS w A (by8 bs)) (hn : n = bs.length) :
   (convert src dst (.slice A n c)).run P w = .ok (.string (strOf bs)) w := by
 obtain ⟨e, h1, h2⟩ := isBytes_spec hs
 rw [run_convert_bytes_string w src dst e A n c h1 h2 (isStr_spec hd)]
 subst hn
 cases A with
 | none =>
   rcases h with h | ⟨a, hA, _⟩
   · have : bs = [] := by simpa [by8] using h
     subst this
     rfl
   · cases hA
 | some a =>
   have hl := h.load (P := P) rfl
   rw [by8_length] at hl
   rw [run_bytesToString w a bs.length c (bs.map fun b => (b.toNat : Int)) (by rw [hl]; simp [by8, Function.comp_def]), foldl_push]
   have : ByteArray.empty.data = #[] := rfl
   rw [this]
   simp [strOf]
theorem run_str_eql {t : TypeId} (a b : List UInt8) (w : World) : (binOp .eql t (.string (strOf a)) (.string (strOf b))).run P w = .ok (.bool (a == b)) w := by
 simp [binOp, Op.stringOp, strOf_toList]
def nev {α : Type} (P : Program) : Sem α → Option (Obj × (Nat → Option α))
 | .new o k => some (o, fun r => pev P (k r))
 | .program k => nev P (k P)
 | .mark _ k => nev P k
 | _ => none
theorem nev_run {α : Type} : ∀ {s : Sem α} {o : Obj} {f : Nat → Option α}, nev P s = some (o, f) → ∀ (w : World) (a : α), f w.heap.size = some a → s.run P w = .ok a (w.alloc o) := by
 intro s
 induction s with
 | new o k _ => intro o' f h w a ha; simp only [nev, Option.some.injEq, Prod.mk.injEq] at h; obtain ⟨rfl, rfl⟩ := h; exact pev_run ha _
 | program k ih => intro o f h w a ha; simp only [nev] at h; simp only [Sem.run]; exact ih P h w a ha
 | mark m k ih => intro o f h w a ha; simp only [nev] at h; simp only [Sem.run]; exact ih h w a ha
 | _ => intro o f h; simp [nev] at h
theorem Hp.made (H : Hp w0 S L w) (s : Sem Value) (f : Nat → Value) (cs : List Value) (t : TypeId) (hs : nev P s = some (.cells cs.toArray t, fun r => some (f r))) :
   ∃ b w', s.run P w = .ok (f b) w' ∧ Hp w0 S (L ++ [.blk b cs t]) w' :=
 ⟨w.heap.size, _, nev_run hs w _ rfl, H.new cs t⟩
theorem Hp.turnNew (H : Hp w0 S L w) (i : Nat) {e e' : Ent} (hL : L[i]? = some e) (he : ∀ k ∈ e'.ids, k ∈ e.ids ∨ w.heap.size ≤ k) (hn : e'.ids.Nodup) (h' : e'.holds w') (hos : w'.os = w.os) (htape : w'.tape = w.tape) (hout : w'.output = w.output)
   (hsz : w.heap.size ≤ w'.heap.size) (hk : ∀ k, k < w.heap.size → k ∉ e.ids → w'.heap[k]? = w.heap[k]?) : Hp w0 S (L.set i e') w' := by
 have hi : i < L.length := (List.getElem?_eq_some_iff.1 hL).1
 have hmem : ∀ k, k ∈ ids (L.set i e') → k ∈ ids L ∨ w.heap.size ≤ k := by
   intro k hk'
   obtain ⟨x, hx, hkx⟩ := List.mem_flatMap.1 hk'
   rcases List.mem_or_eq_of_mem_set hx with hx | rfl
   · exact .inl (ids_mem hx hkx)
   · rcases he k hkx with h | h
     · exact .inl (ids_mem (List.mem_of_getElem? hL) h)
     · exact .inr h
 refine ⟨hos.trans H.os, htape.trans H.tape, hout.trans H.output, Nat.le_trans H.size hsz, ?_, ?_, ?_, ?_⟩
 · intro k hk0 hS
   refine (hk k (Nat.lt_of_lt_of_le hk0 H.size) (fun hin => ?_)).trans (H.keep k hk0 hS)
   rcases H.old k (ids_mem (List.mem_of_getElem? hL) hin) with h | h
   · omega
   · exact hS h
 · intro x hx
   obtain ⟨j, hj⟩ := List.getElem?_of_mem hx
   by_cases hij : i = j
   · subst hij
     rw [List.getElem?_set_self hi] at hj
     injection hj with hj
     subst hj
     exact h'
   · rw [List.getElem?_set_ne hij] at hj
     have hxx := H.ents x (List.mem_of_getElem? hj)
     refine Ent.same hxx (fun k hkx => hk k (Ent.lt hxx k hkx) (fun hke => ?_))
     exact other_ids H.nd hL hj hij hke hkx
 · intro k hk'
   rcases hmem k hk' with h | h
   · exact H.old k h
   · exact .inl (Nat.le_trans H.size h)
 · have key : ∀ (L : List Ent) (i : Nat), L[i]? = some e → (ids L).Nodup → (∀ k ∈ ids L, k < w.heap.size) → (ids (L.set i e')).Nodup := by
     intro L
     induction L with
     | nil => intro i h; simp at h
     | cons x r ih =>
       intro i hL hnd hlt
       rw [ids_cons] at hnd
       obtain ⟨n1, n2, n3⟩ := List.nodup_append.1 hnd
       cases i with
       | zero =>
         simp at hL
         subst hL
         simp only [List.set_cons_zero, ids_cons]
         refine List.nodup_append.2 ⟨hn, n2, fun a ha b hb hab => ?_⟩
         subst hab
         rcases he a ha with h | h
         · exact n3 a h a hb rfl
         · have := hlt a (by rw [ids_cons]; exact List.mem_append_right _ hb)
           omega
       | succ i =>
         simp only [List.set_cons_succ, ids_cons]
         have hlr : ∀ k ∈ ids r, k < w.heap.size := fun k hk => hlt k (by rw [ids_cons]; exact List.mem_append_right _ hk)
         refine List.nodup_append.2 ⟨n1, ih i (by simpa using hL) n2 hlr, fun a ha b hb hab => ?_⟩
         subst hab
         obtain ⟨y, hy, hay⟩ := List.mem_flatMap.1 hb
         rcases List.mem_or_eq_of_mem_set hy with hy | rfl
         · exact n3 a ha a (ids_mem hy hay) rfl
         · rcases he a hay with h | h
           · exact n3 a ha a (ids_mem (List.mem_of_getElem? (by simpa using hL)) h) rfl
           · have := hlt a (by rw [ids_cons]; exact List.mem_append_left _ ha)
             omega
   exact key L i hL H.nd H.lt
def elOf (P : Program) (t : TypeId) : Option (Nat × Nat × Nat) :=
 match P.underlying t with
 | some (.slice e) => match P.info? e with
   | some i => match i.zero with
     | some z => if z.cells.size = i.size ∧ 0 < i.size then some (e, i.size, i.bytes) else none
     | none => none
   | none => none
 | _ => none
theorem elOf_spec {t e sz by_ : Nat} (h : elOf P t = some (e, sz, by_)) : ∃ i z, P.underlying t = some (.slice e) ∧ P.info? e = some i ∧ i.zero = some z ∧ i.size = sz ∧ i.bytes = by_ ∧ z.cells.size = sz ∧ 0 < sz := by
 unfold elOf at h
 split at h
 · rename_i e' he
   split at h
   · rename_i i hi
     split at h
     · rename_i z hz
       split at h
       · rename_i hc
         simp only [Option.some.injEq, Prod.mk.injEq] at h
         obtain ⟨rfl, rfl, rfl⟩ := h
         exact ⟨i, z, he, hi, hz, rfl, rfl, hc.1, hc.2⟩
       · cases h
     · cases h
   · cases h
 · cases h
theorem own_ids {A : Option Addr} {n c e sz : Nat} {xs : List Value} : (Ent.row A n c e sz xs).ids.Nodup := by cases A <;> simp [Ent.ids]
theorem row_shape {v : Value} {e sz n : Nat} {xs : List Value} (h : w.ownsRow 0 e sz v n xs) : ∃ A c, v = .slice A n c := by
 rcases h.2 with ⟨rfl, rfl⟩ | ⟨g, cap, cur, rfl, _⟩
 · exact ⟨none, 0, rfl⟩
 · exact ⟨_, cap, rfl⟩
theorem Hp.append (H : Hp w0 S L w) (i : Nat) {A B : Option Addr} {n c m d t ty e sz by_ : Nat} {xs news : List Value} (hL : L[i]? = some (.row A n c e sz xs)) (ht : elOf P t = some (e, sz, by_)) (hr : RdS w B news) (hm : news.length = m * sz)
   (h1 : ∀ u ∈ news, u.oneCell' = true) (hb : (n + m) * by_ ≤ 140737488355328) (h63 : n + m ≤ maxLen) :
   ∃ A' c' w', (Builtin.append_ #[t, t] ty #[.slice A n c, .slice B m d]).run P w = .ok (.slice A' (n + m) c') w' ∧ Hp w0 S (L.set i (.row A' (n + m) c' e sz (xs ++ news))) w' := by
 obtain ⟨inf, z, hu, hi, hz, hsz, hby, hzc, hpos⟩ := elOf_spec ht
 have hown := H.rowAt i hL
 by_cases hm0 : m = 0
 · have hnil : news = [] := List.eq_nil_of_length_eq_zero (by rw [hm, hm0, Nat.zero_mul])
   subst hnil hm0
   refine ⟨A, c, w, ?_, ?_⟩
   · have hle : n ≤ c := by
       rcases hown.2 with ⟨h0, hn⟩ | ⟨g, cap, cur, hv, _, _, hnc, _⟩
       · omega
       · injection hv with _ _ hc
         omega
     have hfc : ∀ B, (Builtin.firstCells inf.size 0 (.slice B 0 d)).run P w = .ok #[] w := by
       intro B
       cases B <;> simp [Builtin.firstCells, loadCells, loadCellsFrom]
     cases A <;> simp [Builtin.append_, run_underlying hu, sizeOf, typeInfo, hi, Builtin.lenOf, hle, hfc, storeCells]
   · have hLi : i < L.length := (List.getElem?_eq_some_iff.1 hL).1
     have : L.set i (.row A (n + 0) c e sz (xs ++ [])) = L := by
       refine List.ext_getElem? (fun k => ?_)
       by_cases hk : i = k
       · subst hk
         rw [List.getElem?_set_self hLi, hL]
         simp
       · rw [List.getElem?_set_ne hk]
     rw [this]
     exact H
 · have hne : news ≠ [] := by
     intro h0
     subst h0
     have h0 : m * sz = 0 := by rw [← hm]; rfl
     rcases Nat.mul_eq_zero.1 h0 with h | h <;> omega
   obtain ⟨a, rfl, ha, hc⟩ : ∃ a, B = some a ∧ a.block < w.heap.size ∧ ∀ j v, news[j]? = some v → w.cell? (a.add j) = some v := by
     rcases hr with h | h
     · exact absurd h hne
     · exact h
   obtain ⟨v', w', hrun, hown', hg, _, hat⟩ := run_append_own_at (P := P) w 0 t ty e inf z sz by_ hu hi hz hsz hby hzc hpos (.slice A n c) n xs hown a m d news hm (fun j u hu => hc j u hu) h1 h63 hb (Nat.zero_le _)
   obtain ⟨A', c', rfl⟩ := row_shape hown'
   refine ⟨A', c', w', hrun, H.turnNew i hL ?_ own_ids hown' hg.os hg.tape hg.output hg.size ?_⟩
   · intro k hk
     have hk' : (Value.slice A' (n + m) c').ownBlock = some k := by
       cases A' with
       | none => simp [Ent.ids] at hk
       | some a' => simp [Ent.ids] at hk; simp [Value.ownBlock, hk]
     rcases hat with hat | hat
     · rw [hat] at hk'
       left
       cases A with
       | none => simp [Value.ownBlock] at hk'
       | some a0 => simp [Value.ownBlock] at hk'; simp [Ent.ids, hk']
     · rw [hat] at hk'
       injection hk' with hk'
       right
       omega
   · intro k hk hke
     refine hg.block k hk (fun h => hke ?_)
     cases A with
     | none => simp [Value.ownBlock] at h
     | some a0 => simp [Value.ownBlock] at h; simp [Ent.ids, h]
theorem Hp.rowNil (H : Hp w0 S L w) (e sz : Nat) : Hp w0 S (L ++ [.row none 0 0 e sz []]) w := by
 refine ⟨H.os, H.tape, H.output, H.size, H.keep, ?_, ?_, ?_⟩
 · intro x hx
   rcases List.mem_append.1 hx with hx | hx
   · exact H.ents x hx
   · simp at hx
     subst hx
     exact World.ownsRow_nil _ _ _ _
 · intro k hk
   rw [ids_append] at hk
   rcases List.mem_append.1 hk with hk | hk
   · exact H.old k hk
   · simp [ids, Ent.ids] at hk
 · rw [ids_append]
   simpa [ids, Ent.ids] using H.nd
theorem Hp.blkRow {b : Nat} {cs : List Value} {t : TypeId} (H : Hp w0 S (L ++ [.blk b cs t]) w) (hfz : w.heap[b]? = some (.cells cs.toArray t (0, 0))) {n c sz : Nat} (hn : n ≤ c) (hc : c ≤ maxLen) (hsz : cs.length = c * sz) :
   Hp w0 S (L ++ [.row (some ⟨b, 0, none⟩) n c t sz (cs.take (n * sz))]) w := by
 refine ⟨H.os, H.tape, H.output, H.size, H.keep, ?_, ?_, ?_⟩
 · intro x hx
   rcases List.mem_append.1 hx with hx | hx
   · exact H.ents x (List.mem_append_left _ hx)
   · simp at hx
     subst hx
     refine ⟨?_, .inr ⟨b, c, cs.toArray, rfl, Nat.zero_le _, hfz, hn, hc, by simpa using hsz, by simp⟩⟩
     rw [List.length_take, hsz]
     exact Nat.min_eq_left (Nat.mul_le_mul_right _ hn)
 · intro k hk
   refine H.old k ?_
   rw [ids_append] at hk ⊢
   simpa [ids, Ent.ids] using hk
 · have := H.nd
   rw [ids_append] at this ⊢
   simpa [ids, Ent.ids] using this
end
section
variable {P : Program} {w0 w : World} {S : List Nat} {L : List Ent}
theorem Hp.appendMake (H : Hp w0 S L w) {t ti ty e sz by_ n : Nat} (ht : elOf P t = some (e, sz, by_)) (hti : P.underlying ti = some (.int .i64)) (hn : 0 < n) (hb : n * by_ ≤ 140737488355328) (h63 : n ≤ maxLen) :
   ∃ b c w', (Builtin.append_ #[t, ti] ty #[.slice none 0 0, .int .i64 (n : Int)]).run P w = .ok (.slice (some ⟨b, 0, none⟩) n c) w' ∧ n ≤ c ∧ Hp w0 S (L ++ [.row (some ⟨b, 0, none⟩) 0 c e sz []]) w' := by
 obtain ⟨inf, z, hu, hi, hz, hsz, hby, hzc, hpos⟩ := elOf_spec ht
 subst hsz hby
 have hwn : IntKind.i64.wrap (n : Int) = (n : Int) := in_i64 (by simp only [maxLen] at h63; omega)
 have h1 : ¬ ((n : Int) < 0) := by omega
 have h2 : ¬ (281474976710656 < (n : Int) * (inf.bytes : Int)) := by
   have : ((n * inf.bytes : Nat) : Int) ≤ 140737488355328 := by omega
   rw [Int.natCast_mul] at this
   omega
 have h4 : ¬ (9223372036854775807 < (n : Int)) := by simp only [maxLen] at h63; omega
 have h5 : ¬ (281474976710656 < Builtin.nextslicecap n 0 * inf.bytes) := by
   have : Builtin.nextslicecap n 0 = n := by simp [Builtin.nextslicecap, hn]
   rw [this]
   omega
 refine ⟨w.heap.size, grownCap w n 0 e, w.drew.alloc (.cells (Builtin.zeroCells z.cells n ++ Builtin.zeroCells z.cells (grownCap w n 0 e - n)) e), ?_, grownCap_ge w n 0 e, ?_⟩
 · have hn0 : n ≠ 0 := by omega
   have hs : n * inf.size ≠ 0 := Nat.mul_ne_zero hn0 (by omega)
   simp [Builtin.append_, run_underlying hu, run_underlying hti, sizeOf, typeInfo, zeroValue, hi, hz, hwn, asInt, asIntOf, hn0, Question.forced, newRow, grownCap, Builtin.firstCells, hs]
   rw [if_neg h1, if_neg h2, if_neg h4, if_neg h5]
 · have H1 := (H.step (Below.refl _ _).drew).new (Builtin.zeroCells z.cells n ++ Builtin.zeroCells z.cells (grownCap w n 0 e - n)).toList e
   simp only [Array.toArray_toList] at H1
   have H2 := Hp.blkRow (b := w.heap.size) H1 (by rw [Array.toArray_toList]; exact heap_alloc_new w.drew _) (n := 0) (c := grownCap w n 0 e) (sz := inf.size) (Nat.zero_le _) (grownCap_le_maxLen w n 0 e h63) (by
     have := grownCap_ge w n 0 e
     simp only [Array.length_toList, Array.size_append, Builtin.zeroCells, Array.size_map, Array.size_range, hzc, ← Nat.add_mul]
     congr 1
     omega)
   simpa using H2
end
abbrev SB := Option Addr × Nat × List UInt8
def sv (s : SB) : Value := .slice s.1 s.2.2.length s.2.1
def flat (l : List SB) : List UInt8 := l.flatMap (·.2.2)
theorem flat_take {l : List SB} {k : Nat} {s : SB} (h : l[k]? = some s) : flat (l.take (k + 1)) = flat (l.take k) ++ s.2.2 := by
 have hk := (List.getElem?_eq_some_iff.1 h).1
 rw [List.take_add_one, h]
 simp [flat]
theorem flat_le (l : List SB) (k : Nat) : (flat (l.take k)).length ≤ (flat l).length := by
 conv => rhs; rw [← List.take_append_drop k l]
 simp only [flat, List.flatMap_append, List.length_append]
 omega
theorem Hp.oldBlk {w0 w : World} {L : List Ent} (H : Hp w0 [] L w) {b : Nat} {cs : List Value} {t : TypeId} (h : Blk w0 b cs t) : Blk w b cs t := h.same (H.keep b h.lt (by simp))
section
variable {P : Program} {w : World}
theorem run_sliceSl {t len cap : Nat} {A : Option Addr} {lo hi : Option Value} {l h : Nat} (ht : slcOf P t = some 1) (hlo : (lo = none ∧ l = 0) ∨ ∃ k i, lo = some (.int k i) ∧ i = (l : Int)) (hhi : (hi = none ∧ h = len) ∨ ∃ k i, hi = some (.int k i) ∧ i = (h : Int))
   (hlh : l ≤ h) (hh : h ≤ cap) : (Instr.sliceAt t (.slice A len cap) lo hi none).run P w = .ok (.slice (if cap = l then A else A.map (·.add l)) (h - l) (cap - l)) w := by
 obtain ⟨e, hu, hs⟩ := slcOf_spec ht
 have hb : (Instr.sliceBounds true len cap lo hi none).run P w = .ok (l, h, cap) w := by
   have g1 : (0 : Int) ≤ (l : Int) ∧ (l : Int) ≤ (h : Int) := ⟨by omega, by omega⟩
   have g2 : (0 : Int) ≤ (h : Int) ∧ (h : Int) ≤ (cap : Int) := ⟨by omega, by omega⟩
   rcases hlo with ⟨rfl, rfl⟩ | ⟨k, i, rfl, rfl⟩ <;> rcases hhi with ⟨rfl, rfl⟩ | ⟨k', i', rfl, rfl⟩ <;> simp [Instr.sliceBounds, Instr.sliceBound, asIntOf, hlh, hh]
 simp only [Instr.sliceAt, Sem.run_bind, run_underlying hu, Result.andThen_ok, Instr.slice, hb, hs, Sem.run_pure, Nat.mul_one]
theorem run_sliceSl0 {t len cap : Nat} {A : Option Addr} {lo hi : Option Value} {h : Nat} (ht : slcOf P t = some 1) (hlo : (lo = none ∧ 0 = 0) ∨ ∃ k i, lo = some (.int k i) ∧ i = ((0 : Nat) : Int)) (hhi : (hi = none ∧ h = len) ∨ ∃ k i, hi = some (.int k i) ∧ i = (h : Int))
   (hh : h ≤ cap) : (Instr.sliceAt t (.slice A len cap) lo hi none).run P w = .ok (.slice A h cap) w := by
 have e : (if cap = 0 then A else A.map (·.add 0)) = A := by
   split
   · rfl
   · cases A <;> rfl
 rw [run_sliceSl (l := 0) (h := h) ht hlo hhi (Nat.zero_le _) hh, e]
 rfl
end
end Go.Proofs.Ytcedmbdahbdmaaa
namespace Go.Proofs.Ytcedmbdahbdmaaa
open Go.RowKit
section
variable {P : Program} {w0 w : World} {S : List Nat} {L : List Ent}
def ints (k : IntKind) (xs : List Int) : List Value := xs.map (.int k)
theorem run_part_int {e : TypeId} {k k' : IntKind} (he : P.underlying e = some (.int k')) (xs : List Int) {i : Nat} (hi : i < xs.length) : (part e (ints k xs).toArray (i * 1)).run P w = .ok (.int k (xs.getD i 0)) w := by
 have h1 : (isAgg e).run P w = .ok false w := by
   unfold isAgg
   rw [Sem.run_bind, run_underlying he w]
   rfl
 have h2 : (ints k xs)[i]? = some (.int k (xs[i]?.getD 0)) := by
   simp [ints, hi]
 simp [part, h1, h2]
theorem run_eqInts {e : TypeId} {k k' : IntKind} (he : P.underlying e = some (.int k')) (d : Nat) (xs ys : List Int) (hl : xs.length = ys.length) : ∀ is : List Nat, (∀ i ∈ is, i < xs.length) →
   (Op.eqItems (d + 1) e 1 (ints k xs).toArray (ints k ys).toArray is).run P w = .ok (is.all fun i => xs.getD i 0 == ys.getD i 0) w
 | [], _ => rfl
 | i :: is, h => by
   have hi := h i (by simp)
   have ih := run_eqInts (k := k) he d xs ys hl is (fun j hj => h j (by simp [hj]))
   have hi' : i < ys.length := by omega
   simp only [Op.eqItems, Sem.run_bind, run_part_int he xs hi, run_part_int he ys hi', Result.andThen_ok, run_equalIn_int (P := P) w d e k k' _ _ he, List.all_cons]
   cases (xs.getD i 0 == ys.getD i 0) with
   | false => rfl
   | true => simpa using ih
theorem all_range_eq (xs ys : List Int) (hl : xs.length = ys.length) : ((List.range xs.length).all fun i => xs.getD i 0 == ys.getD i 0) = decide (xs = ys) := by
 rw [Bool.eq_iff_iff]
 simp only [List.all_eq_true, List.mem_range, beq_iff_eq, decide_eq_true_eq]
 constructor
 · intro h
   refine List.ext_getElem? (fun i => ?_)
   by_cases hi : i < xs.length
   · have := h i hi
     simp only [List.getD_eq_getElem?_getD] at this
     rw [List.getElem?_eq_getElem hi, List.getElem?_eq_getElem (by omega)] at this ⊢
     simpa using this
   · rw [List.getElem?_eq_none (by omega), List.getElem?_eq_none (by omega)]
 · rintro rfl i _
   rfl
def arrInt (P : Program) (t : TypeId) : Option Nat :=
 match P.underlying t with
 | some (.array n e) => match P.underlying e, P.info? e with
   | some (.int _), some i => if i.size = 1 ∧ P.eqGuardType P.depth t = false then some n else none
   | _, _ => none
 | _ => none
theorem arrInt_spec {t n : Nat} (h : arrInt P t = some n) : ∃ e i k, P.underlying t = some (.array n e) ∧ P.underlying e = some (.int k) ∧ P.info? e = some i ∧ i.size = 1 ∧ P.eqGuardType P.depth t = false := by
 unfold arrInt at h
 split at h
 · rename_i m e hu
   split at h
   · rename_i k i hk hi
     split at h
     · rename_i hc
       injection h with h
       subst h
       exact ⟨e, i, k, hu, hk, hi, hc.1, hc.2⟩
     · cases h
   · cases h
 · cases h
theorem run_arrEq {t n : Nat} {k : IntKind} (ht : arrInt P t = some n) (xs ys : List Int) (hx : xs.length = n) (hy : ys.length = n) (w : World) :
   (Op.equalIn 10000 t (.agg (ints k xs).toArray) (.agg (ints k ys).toArray)).run P w = .ok (decide (xs = ys)) w := by
 obtain ⟨e, i, k', hu, he, hi, hs, _⟩ := arrInt_spec ht
 rw [run_equalIn_array w 9999 _ _ hu hi]
 have hc : P.cellsOf e = 1 := by simp [Program.cellsOf, hi, hs]
 rw [hc, run_eqInts he 9998 xs ys (by omega) (List.range n) (fun j hj => by rw [hx]; simpa using hj), ← hx, all_range_eq xs ys (by omega)]
theorem run_arr_eql {t n : Nat} {k : IntKind} {x y : Operand} (ht : arrInt P t = some n) (xs ys : List Int) (hx : xs.length = n) (hy : ys.length = n) (w : World) :
   (do eqGuard .eql t x y (.agg (ints k xs).toArray) (.agg (ints k ys).toArray); binOp .eql t (.agg (ints k xs).toArray) (.agg (ints k ys).toArray) : Sem Value).run P w = .ok (.bool (decide (xs = ys))) w := by
 obtain ⟨e, i, k', _, _, _, _, hg⟩ := arrInt_spec ht
 simp only [Sem.run_bind, run_eqGuard_agg w .eql t x y _ _ hg, Result.andThen_ok, run_eql_struct, run_arrEq ht xs ys hx hy]
theorem Hp.mark (H : Hp w0 S L w) (i : Nat) {b o : Nat} {cs : List Value} {t T n c : Nat} (hL : L[i]? = some (.blk b cs t)) (ht : isBytes P T = true) :
   ∃ w', (convert T T (.slice (some ⟨b, o, none⟩) n c)).run P w = .ok (.slice (some ⟨b, o, none⟩) n c) w' ∧ Hp w0 S L w' := by
 obtain ⟨e, h1, h2⟩ := isBytes_spec ht
 obtain ⟨lo, hi, hb, hf⟩ := H.blkAt i hL
 have hlt : b < w.heap.size := (Array.getElem?_eq_some_iff.1 hb).1
 have hsh : w.shape? b = some (t, cs.length) := by simp [World.shape?, hb]
 let w' := w.freeze ⟨b, cs.length, none⟩ 1
 have hw' : w'.heap[b]? = some (.cells cs.toArray t (if lo == hi then (cs.length, cs.length + 1) else (min lo cs.length, max hi (cs.length + 1)))) := by
   simp [w', World.freeze, Array.getElem?_modify, hb]
 have hoth : ∀ k, k ≠ b → w'.heap[k]? = w.heap[k]? := by
   intro k hk
   simp only [w', World.freeze]
   rw [if_neg (by decide)]
   simp only [Array.getElem?_modify]
   rw [if_neg (fun h => hk h.symm)]
 have H' : Hp w0 S (L.set i (.blk b cs t)) w' := by
   refine H.turn i hL rfl ?_ rfl rfl rfl (by simp [w', World.freeze]) (fun k _ hk => hoth k (by simpa [Ent.ids] using hk))
   by_cases hlh : lo = hi
   · exact ⟨cs.length, cs.length + 1, by simpa [hlh] using hw', .inr (Nat.le_refl _)⟩
   · refine ⟨min lo cs.length, max hi (cs.length + 1), by simpa [hlh] using hw', .inr ?_⟩
     rcases hf with h | h
     · exact absurd h hlh
     · omega
 have hset : L.set i (.blk b cs t) = L := by
   have hLi : i < L.length := (List.getElem?_eq_some_iff.1 hL).1
   refine List.ext_getElem? (fun k => ?_)
   by_cases hk : i = k
   · subst hk
     rw [List.getElem?_set_self hLi, hL]
   · rw [List.getElem?_set_ne hk]
 rw [hset] at H'
 refine ⟨w', ?_, H'⟩
 simp [convert, run_underlying h1, run_underlying h2, markStringish, shape, freeze, Sem.run, hsh, w']
end
end Go.Proofs.Ytcedmbdahbdmaaa
namespace Go.Proofs.Ytcedmbdahbdmaaa
open Go.RowKit Go.ChangeShapes Go.WideShapes Go.ChangeAt
section
variable {H : Type} {enc : TypeId × Value → H} {P : Program} {w : World} {sp : Nat → Bool} {held : Bool}
def lv (P : Program) : Nat → TypeId → Nat → List (Nat × TypeId)
 | 0, t, o => [(o, t)]
 | n + 1, t, o =>
   match P.underlying t with
   | some (.struct fs) => fs.toList.flatMap fun f => lv P n f.type (o + f.offset)
   | some (.array len e) => (List.range len).flatMap fun i => lv P n e (o + i * P.cellsOf e)
   | _ => [(o, t)]
def lvOk (P : Program) : Nat → TypeId → Bool
 | 0, _ => true
 | n + 1, t =>
   match P.underlying t with
   | some (.struct fs) => fs.toList.all fun f => decide (f.offset + P.cellsOf f.type ≤ P.cellsOf t) && lvOk P n f.type
   | some (.array len e) => decide (len * P.cellsOf e ≤ P.cellsOf t) && lvOk P n e
   | _ => true
theorem cut_cut {cs : List Value} {o k a b : Nat} (h : a + b ≤ k) : (((cs.drop o).take k).drop a).take b = (cs.drop (o + a)).take b := by
 rw [List.drop_take, List.take_take, List.drop_drop, Nat.min_eq_left (by omega)]
theorem trod_leaves (n : Nat) : ∀ (fuel : Nat) (t : TypeId) (o : Nat) (cs : List Value) (x : DataW H × List MemPlace), lvOk P n t = true →
   DataW.trod enc P w 0 sp held fuel t ((cs.drop o).take (P.cellsOf t)) = some x →
   ∀ p ∈ lv P n t o, ∃ m y, DataW.trod enc P w 0 sp held m p.2 ((cs.drop p.1).take (P.cellsOf p.2)) = some y := by
 induction n with
 | zero =>
   intro fuel t o cs x _ h p hp
   simp only [lv, List.mem_singleton] at hp
   subst hp
   exact ⟨_, _, h⟩
 | succ n ih =>
   intro fuel t o cs x hok h p hp
   unfold lv at hp
   unfold lvOk at hok
   split at hp
   · rename_i fs hu
     rw [hu] at hok
     obtain ⟨xs, m, _, _, _, hlen, hel⟩ := DataW.trod_struct hu h
     obtain ⟨f, hf, hp⟩ := List.mem_flatMap.1 hp
     obtain ⟨i, hi, hif⟩ := List.getElem_of_mem hf
     have h0 := List.all_eq_true.1 hok f hf
     simp only [Bool.and_eq_true, decide_eq_true_eq] at h0
     have h1 := hel i f (by rw [← hif]; simp)
     rw [cut_cut h0.1, List.getElem?_eq_getElem (by simp at hi; omega)] at h1
     exact ih m f.type _ cs _ h0.2 h1 p hp
   · rename_i len e hu
     rw [hu] at hok
     obtain ⟨xs, m, _, _, _, hlen, hel⟩ := DataW.trod_array hu h
     obtain ⟨i, hi, hp⟩ := List.mem_flatMap.1 hp
     simp only [Bool.and_eq_true, decide_eq_true_eq] at hok
     simp only [List.mem_range] at hi
     have h1 := hel i hi
     have hle : i * P.cellsOf e + P.cellsOf e ≤ P.cellsOf t := Nat.le_trans (by rw [← Nat.succ_mul]; exact Nat.mul_le_mul_right _ hi) hok.1
     rw [cut_cut hle, List.getElem?_eq_getElem (by omega)] at h1
     exact ih m e _ cs _ hok.2 h1 p hp
   · simp only [List.mem_singleton] at hp
     subst hp
     exact ⟨_, _, h⟩
def Lf (enc : TypeId × Value → H) (P : Program) (w : World) (sp : Nat → Bool) (held : Bool) (cs : List Value) (o : Nat) (t : TypeId) : Prop :=
 ∃ m y, DataW.trod enc P w 0 sp held m t ((cs.drop o).take (P.cellsOf t)) = some y
theorem open_leaves (n : Nat) {t : TypeId} {cs : List Value} {fuel : Nat} {x : DataW H × List MemPlace} (hlen : cs.length = P.cellsOf t) (hok : lvOk P n t = true) (h : DataW.trod enc P w 0 sp held fuel t cs = some x)
   {ls : List (Nat × TypeId)} (hl : lv P n t 0 = ls) : ∀ p ∈ ls, Lf enc P w sp held cs p.1 p.2 := by
 intro p hp
 subst hl
 refine trod_leaves n fuel t 0 cs x hok ?_ p hp
 rwa [List.drop_zero, ← hlen, List.take_length]
theorem one_cell {cs : List Value} {o k : Nat} {v : Value} (h : (cs.drop o).take k = [v]) : cs[o]? = some v := by
 have h1 : ((cs.drop o).take k)[0]? = some v := by rw [h]; rfl
 rw [List.getElem?_take] at h1
 split at h1
 · rw [List.getElem?_drop] at h1
   simpa using h1
 · cases h1
theorem Lf.int {cs : List Value} {o : Nat} {t : TypeId} {k : IntKind} (ht : P.underlying t = some (.int k)) (h : Lf enc P w sp held cs o t) : ∃ n, cs[o]? = some (.int k n) ∧ (Lit.int k n).wf = true := by
 obtain ⟨m, y, h⟩ := h
 obtain ⟨n, e, _, hw⟩ := DataW.trod_int ht h
 exact ⟨n, one_cell e, hw⟩
theorem u8_wf {n : Int} (h : (Lit.int .u8 n).wf = true) : n = ((UInt8.ofNat n.toNat).toNat : Int) := by
 simp [Lit.wf, IntKind.min, IntKind.max, IntKind.signed, IntKind.bits] at h
 rw [UInt8.toNat_ofNat']
 omega
theorem Lf.u8 {cs : List Value} {o : Nat} {t : TypeId} (ht : P.underlying t = some (.int .u8)) (h : Lf enc P w sp held cs o t) : ∃ b : UInt8, cs[o]? = some (.int .u8 (b.toNat : Int)) := by
 obtain ⟨n, h1, h2⟩ := h.int ht
 exact ⟨UInt8.ofNat n.toNat, by rw [h1]; exact congrArg (fun z => some (Value.int .u8 z)) (u8_wf h2)⟩
theorem Lf.u64 {cs : List Value} {o : Nat} {t : TypeId} (ht : P.underlying t = some (.int .u64)) (h : Lf enc P w sp held cs o t) : ∃ n : Nat, cs[o]? = some (.int .u64 (n : Int)) ∧ n < 2 ^ 64 := by
 obtain ⟨n, h1, h2⟩ := h.int ht
 simp [Lit.wf, IntKind.min, IntKind.max, IntKind.signed, IntKind.bits] at h2
 exact ⟨n.toNat, by rw [h1, Int.toNat_of_nonneg h2.1], by omega⟩
theorem Lf.bool {cs : List Value} {o : Nat} {t : TypeId} (ht : P.underlying t = some .bool) (h : Lf enc P w sp held cs o t) : ∃ b, cs[o]? = some (.bool b) := by
 obtain ⟨m, y, h⟩ := h
 cases m with
 | zero => simp [DataW.trod] at h
 | succ m =>
   unfold DataW.trod at h
   rw [ht] at h
   split at h <;> simp_all
   rename_i e
   rw [one_cell e]
   simp
theorem open_u8s {t e : TypeId} {fuel : Nat} {cs : List Value} {x : DataW H × List MemPlace} (ht : P.underlying t = some (.slice e)) (he : P.underlying e = some (.int .u8)) (hc : P.cellsOf e = 1)
   (h : DataW.trod enc P w 0 sp held fuel t cs = some x) : ∃ A bs c, cs = [.slice A bs.length c] ∧ RdS w A (by8 bs) ∧ bs.length ≤ c ∧ c ≤ maxLen := by
 rcases open_ints ht he hc h with ⟨rfl, _⟩ | ⟨a, len, cap, zs, rfl, _, hl, hm, hz, _, hcell, hwz⟩
 · exact ⟨none, [], 0, rfl, .inl rfl, Nat.le_refl _, Nat.zero_le _⟩
 · have hzl : len ≤ zs.length := by rw [hz]; split <;> omega
   refine ⟨some a, (zs.take len).map fun z => UInt8.ofNat z.toNat, cap, by simp [Nat.min_eq_left hzl], ?_, by simp [Nat.min_eq_left hzl]; omega, hm⟩
   have hx : by8 ((zs.take len).map fun z => UInt8.ofNat z.toNat) = (zs.take len).map fun z => Value.int .u8 z := by
     simp only [by8, List.map_map]
     refine List.map_congr_left fun z hz' => ?_
     have := u8_wf (hwz z (List.mem_of_mem_take hz'))
     simp only [Function.comp]
     rw [← this]
   rw [hx]
   by_cases h0 : len = 0
   · exact .inl (by simp [h0])
   · refine .inr ⟨a, rfl, ?_, fun j v hv => ?_⟩
     · have := hcell 0 (by omega)
       have h2 : (a.add 0) = a := by simp [Addr.add]
       rw [h2] at this
       simp only [World.cell?] at this
       split at this
       · rename_i hh
         exact (Array.getElem?_eq_some_iff.1 hh).1
       · cases this
     · have hj : j < len := by
         have := (List.getElem?_eq_some_iff.1 hv).1
         simp at this
         omega
       have h1 := hcell j (by omega)
       rw [h1]
       have hv' : some (Value.int .u8 (zs.getD j 0)) = ((zs.take len).map fun z => Value.int .u8 z)[j]? := by
         rw [List.getElem?_map, List.getElem?_take_of_lt hj, List.getD, List.getElem?_eq_getElem (by omega)]
         rfl
       rw [hv', hv]
theorem Lf.bytes {cs : List Value} {o : Nat} {t e : TypeId} (ht : P.underlying t = some (.slice e)) (he : P.underlying e = some (.int .u8)) (hc : P.cellsOf e = 1) (h : Lf enc P w sp held cs o t) :
   ∃ A bs c, cs[o]? = some (.slice A bs.length c) ∧ RdS w A (by8 bs) ∧ bs.length ≤ c ∧ c ≤ maxLen := by
 obtain ⟨m, y, h⟩ := h
 obtain ⟨A, bs, c, e1, h1, h2, h3⟩ := open_u8s ht he hc h
 exact ⟨A, bs, c, one_cell e1, h1, h2, h3⟩
theorem open_agg {r : Reach} {b0 : Nat} {t : TypeId} {v : Value} {k : Nat} (hagg : (match P.underlying t with | some (.struct _) | some (.array _ _) => true | _ => false) = true) (hk : P.cellsOf t = k) (hv : Value.okWide P w r b0 t v) :
   ∃ cs : List Value, v = .agg cs.toArray ∧ cs.length = k := by
 unfold Value.okWide at hv
 split at hv
 · obtain ⟨cs, rfl, hc, _⟩ := hv
   exact ⟨cs.toList, rfl, by simpa using hc.trans hk⟩
 · obtain ⟨cs, rfl, hc, _⟩ := hv
   exact ⟨cs.toList, rfl, by simpa using hc.trans hk⟩
 · rename_i h1 h2
   split at hagg
   · exact absurd ‹_› (h1 _)
   · exact absurd ‹_› (h2 _ _)
   · cases hagg
end
end Go.Proofs.Ytcedmbdahbdmaaa
namespace Go.Proofs.Ytcedmbdahbdmaaa
open Go.RowKit
abbrev K : Nat := 18446744073709551616
abbrev K4 : Nat := 115792089237316195423570985008687907853269984665640564039457584007913129639936
abbrev z4 : List Value := [.int .u64 0, .int .u64 0, .int .u64 0, .int .u64 0]
abbrev pt (b o : Nat) : Value := .pointer (some ⟨b, o, none⟩)
end Go.Proofs.Ytcedmbdahbdmaaa
namespace Go.Proofs.Ytcedmbdahbdmaaa
open Go.RowKit
theorem n_add (a b : Nat) : IntKind.u64.wrap ((a : Int) + (b : Int)) = (((a + b) % K : Nat) : Int) := by rw [IntKind.wrap_u64]; simp only [K]; omega
theorem n_add' {a b : Nat} (h : a + b < K) : IntKind.u64.wrap ((a : Int) + (b : Int)) = ((a + b : Nat) : Int) := by rw [n_add, Nat.mod_eq_of_lt h]
theorem n_mul (a b : Nat) : IntKind.u64.wrap ((a : Int) * (b : Int)) = (((a * b) % K : Nat) : Int) := by
 rw [IntKind.wrap_u64, ← Int.natCast_mul]
 simp only [K]
 omega
theorem n_mul' {a b : Nat} (h : a * b < K) : IntKind.u64.wrap ((a : Int) * (b : Int)) = ((a * b : Nat) : Int) := by rw [n_mul, Nat.mod_eq_of_lt h]
theorem n_shr (a n : Nat) : Int.fdiv (a : Int) (2 ^ n) = ((a / 2 ^ n : Nat) : Int) := by
 have e : ((2 : Int) ^ n) = ((2 ^ n : Nat) : Int) := by simp
 rw [e, Int.fdiv_eq_ediv_of_nonneg _ (Int.natCast_nonneg _)]
 simp
theorem n_shl (a n : Nat) : IntKind.u64.wrap ((a : Int) * 2 ^ n) = (((a * 2 ^ n) % K : Nat) : Int) := by
 have e : ((2 : Int) ^ n) = ((2 ^ n : Nat) : Int) := by simp
 rw [e, n_mul]
theorem n_or {a b : Nat} (ha : a < K) (hb : b < K) : Go.bits .or .u64 (a : Int) (b : Int) = ((a ||| b : Nat) : Int) :=
 (bits_nat .u64 64 (by decide) (fun n h0 h1 => by rw [IntKind.wrap_u64]; omega) a b (by simpa [K] using ha) (by simpa [K] using hb)).2
end Go.Proofs.Ytcedmbdahbdmaaa
namespace Go.Proofs.Ytcedmbdahbdmaaa
open Go.RowKit
section
variable {P : Program}
theorem run_shlN {t : TypeId} {k' : IntKind} {a r : Nat} (hr : r ≤ 64) (w : World) : (binOp .shl t (.int .u64 (a : Int)) (.int k' (r : Int))).run P w = .ok (.int .u64 ((a * 2 ^ r % K : Nat) : Int)) w := by
 rw [run_shl rfl (by omega), show min ((r : Int)).toNat IntKind.u64.bits = r from by simp only [IntKind.bits]; omega, n_shl]
theorem run_shrN {t : TypeId} {k' : IntKind} {a r : Nat} (hr : r ≤ 64) (w : World) : (binOp .shr t (.int .u64 (a : Int)) (.int k' (r : Int))).run P w = .ok (.int .u64 ((a / 2 ^ r : Nat) : Int)) w := by
 rw [run_shr rfl (by omega), show min ((r : Int)).toNat IntKind.u64.bits = r from by simp only [IntKind.bits]; omega, n_shr]
end
end Go.Proofs.Ytcedmbdahbdmaaa
namespace Go.Proofs.Ytcedmbdahbdmaaa
open Go.RowKit
theorem r64 (n : Nat) : Int.tmod (n : Int) 64 = ((n % 64 : Nat) : Int) := by
 rw [Int.tmod_eq_emod_of_nonneg (by omega)]
 omega
end Go.Proofs.Ytcedmbdahbdmaaa
namespace Go.Proofs.Ytcedmbdahbdmaaa
open Go.RowKit
theorem u8_lt (b : UInt8) : b.toNat < 256 := UInt8.toNat_lt b
theorem u8_up_u64 (b : UInt8) : IntKind.u64.wrap (b.toNat : Int) = (b.toNat : Int) := in_u64 (by have := u8_lt b; omega)
theorem u8_up_u32 (b : UInt8) : IntKind.u32.wrap (b.toNat : Int) = (b.toNat : Int) := in_u32 (by have := u8_lt b; omega)
section
variable {P : Program} {w0 w : World} {S : List Nat} {L : List Ent}
theorem run_idxRd {t len cap : Nat} {A : Option Addr} {k : IntKind} {i : Int} {j : Nat} {xs : List Value} (ht : slcOf P t = some 1) (hi : i = (j : Int)) (hr : RdS w A xs) (hx : xs.length = len) (hj : j < len) :
   (Instr.indexAt t (.slice A len cap) (.int k i)).run P w = .ok (.pointer (A.map (·.add j))) w := by
 obtain ⟨a, rfl, _⟩ := hr.cell (j := j) (List.getElem?_eq_getElem (by omega))
 rw [run_idxSl ht hi hj]
 simp
theorem run_ldRd {ty : TypeId} {A : Option Addr} {j : Nat} {v : Value} {xs : List Value} (hs : scal P ty = true) (hr : RdS w A xs) (hv : xs[j]? = some v) : (Instr.loadAt ty (.pointer (A.map (·.add j)))).run P w = .ok v w := by
 obtain ⟨a, rfl, h⟩ := hr.cell hv
 exact run_ld1 hs h
def arrLen (P : Program) (t : TypeId) : Option Nat :=
 match P.underlying t with
 | some (.array n _) => some n
 | _ => none
theorem run_s2a {t len cap n : Nat} {A : Option Addr} (ht : arrLen P t = some n) (hn : n ≤ len) : (Instr.arrayAt t (.slice A len cap)).run P w = .ok (.pointer A) w := by
 unfold arrLen at ht
 split at ht
 · rename_i m e hu
   injection ht with ht
   subst ht
   have : ¬ len < m := by omega
   simp [Instr.arrayAt, run_underlying hu, this]
 · cases ht
theorem run_ldArr {ty : TypeId} {m : Nat} {A : Option Addr} {xs : List Value} (hs : aggSz P ty = some m) (hr : RdS w A xs) (hl : xs.length = m) (hm : 0 < m) : (Instr.loadAt ty (.pointer A)).run P w = .ok (.agg xs.toArray) w := by
 obtain ⟨a, rfl, _⟩ := hr.cell (j := 0) (List.getElem?_eq_getElem (by omega))
 have h1 := hr.load (P := P) rfl
 rw [hl] at h1
 simp [Instr.loadAt, Instr.sureAddr, loadVar, run_isAgg_agg hs, run_sizeOf_agg hs, h1]
theorem by8_take (bs : List UInt8) (k : Nat) : (by8 bs).take k = by8 (bs.take k) := by simp [by8]
theorem by8_drop (bs : List UInt8) (k : Nat) : (by8 bs).drop k = by8 (bs.drop k) := by simp [by8]
theorem RdS.take8 {A : Option Addr} {bs cs : List UInt8} (h : RdS w A (by8 bs)) (k : Nat) (hc : bs.take k = cs) : RdS w A (by8 cs) := by
 have := h.take k
 rwa [by8_take, hc] at this
theorem RdS.cut8 {A : Option Addr} {bs cs : List UInt8} {cap : Nat} (h : RdS w A (by8 bs)) (l k : Nat) (hcap : bs.length ≤ cap) (hc : (bs.take k).drop l = cs) : RdS w (if cap = l then A else A.map (·.add l)) (by8 cs) := by
 have := (h.take k).drop (cap := cap) l (by rw [by8_take, by8_length, List.length_take]; omega)
 rwa [by8_take, by8_drop, hc] at this
theorem RdS.drop8 {A : Option Addr} {bs cs : List UInt8} {cap : Nat} (h : RdS w A (by8 bs)) (l : Nat) (hcap : bs.length ≤ cap) (hc : bs.drop l = cs) : RdS w (if cap = l then A else A.map (·.add l)) (by8 cs) := by
 have := h.drop (cap := cap) l (by rw [by8_length]; omega)
 rwa [by8_drop, hc] at this
theorem by8_at {bs : List UInt8} {j : Nat} {b : UInt8} (h : bs[j]? = some b) : (by8 bs)[j]? = some (.int .u8 (b.toNat : Int)) := by rw [by8_get, h]; rfl
theorem Hp.madeRow (H : Hp w0 S L w) (s : Sem Value) (f : Nat → Value) (cs : List Value) (t n c sz : Nat) (hs : nev P s = some (.cells cs.toArray t, fun r => some (f r))) (hn : n ≤ c) (hc : c ≤ maxLen) (hsz : cs.length = c * sz) :
   ∃ b w', s.run P w = .ok (f b) w' ∧ Hp w0 S (L ++ [.row (some ⟨b, 0, none⟩) n c t sz (cs.take (n * sz))]) w' :=
 ⟨w.heap.size, _, nev_run hs w _ rfl, Hp.blkRow (H.new cs t) (heap_alloc_new w _) hn hc hsz⟩
theorem run_sl_nil {t n c sz : Nat} {A : Option Addr} (ht : slcOf P t = some sz) (w : World) : (binOp .eql t (.slice A n c) (.slice none 0 0)).run P w = .ok (.bool A.isNone) w := by
 obtain ⟨e, hu, _⟩ := slcOf_spec ht
 have h : (Op.equalIn (9999 + 1) t (.slice A n c) (.slice none 0 0)).run P w = .ok A.isNone w := by
   unfold Op.equalIn
   cases A <;> simp [run_underlying hu]
 show (do pure (.bool (← Op.equalIn (9999 + 1) t (.slice A n c) (.slice none 0 0))) : Sem Value).run P w = _
 simp only [Sem.run_bind, h, Result.andThen_ok, Sem.run_pure]
theorem Hp.rowLe (H : Hp w0 S L w) (i : Nat) {A : Option Addr} {n c e sz : Nat} {xs : List Value} (hL : L[i]? = some (.row A n c e sz xs)) : n ≤ c ∧ xs.length = n * sz ∧ c ≤ maxLen := by
 have h := H.rowAt i hL
 rcases h.2 with ⟨h0, hn⟩ | ⟨g, cap, cur, hv, _, hh, hnc, hm, hsz, ht⟩
 · refine ⟨by omega, h.1, ?_⟩
   injection h0 with _ _ hc
   subst hc
   exact Nat.zero_le _
 · injection hv with _ _ hc
   subst hc
   exact ⟨hnc, h.1, hm⟩
theorem Hp.rdRowN (H : Hp w0 S L w) (i : Nat) {A : Option Addr} {n c e sz : Nat} {xs : List Value} (hL : L[i]? = some (.row A n c e sz xs)) : RdS w A xs := by
 have h := H.rowAt i hL
 rcases h.2 with ⟨h0, hn⟩ | ⟨g, cap, cur, hv, _, hh, hnc, _, hsz, ht⟩
 · left
   have := h.1
   rw [hn, Nat.zero_mul] at this
   exact List.eq_nil_of_length_eq_zero this
 · injection hv with hA
   subst hA
   refine .inr ⟨_, rfl, (Array.getElem?_eq_some_iff.1 hh).1, fun j v hv => ?_⟩
   rw [addr_add]
   have hj : j < n * sz := by
     have := (List.getElem?_eq_some_iff.1 hv).1
     have := h.1
     omega
   rw [← ht, List.getElem?_take_of_lt (by omega)] at hv
   simp only [World.cell?, hh]
   simpa using hv
theorem by8_set (bs : List UInt8) (j : Nat) (b : UInt8) : (by8 bs).set j (.int .u8 (b.toNat : Int)) = by8 (bs.set j b) := by simp [by8, List.map_set]
end
end Go.Proofs.Ytcedmbdahbdmaaa
namespace Go.Proofs.Ytcedmbdahbdmaaa
open Go.RowKit
abbrev MX : Nat := 4611686018427387904
def partQ (a u d : Nat) (m : Bool) : Nat := a * u / d + if m = true ∧ a * u % d ≠ 0 then 1 else 0
def partE (a u d : Nat) (m : Bool) : Nat := if MX < a then 1 else if d = 0 then 5 else if MX < partQ a u d m then 4 else 0
def partV (a u d : Nat) (m : Bool) : Nat := if partE a u d m = 0 then partQ a u d m else 0
theorem part_arg {a u d : Nat} {m : Bool} (h : MX < a) : partE a u d m = 1 ∧ partV a u d m = 0 := by
 have e : partE a u d m = 1 := by rw [partE, if_pos h]
 exact ⟨e, by rw [partV, e]; rfl⟩
theorem part_zero {a u d : Nat} {m : Bool} (h : ¬ MX < a) (hd : d = 0) : partE a u d m = 5 ∧ partV a u d m = 0 := by
 have e : partE a u d m = 5 := by rw [partE, if_neg h, if_pos hd]
 exact ⟨e, by rw [partV, e]; rfl⟩
theorem part_over {a u d : Nat} {m : Bool} (h : ¬ MX < a) (hd : d ≠ 0) (hq : MX < partQ a u d m) : partE a u d m = 4 ∧ partV a u d m = 0 := by
 have e : partE a u d m = 4 := by rw [partE, if_neg h, if_neg hd, if_pos hq]
 exact ⟨e, by rw [partV, e]; rfl⟩
theorem part_ok {a u d : Nat} {m : Bool} (h : ¬ MX < a) (hd : d ≠ 0) (hq : ¬ MX < partQ a u d m) : partE a u d m = 0 ∧ partV a u d m = partQ a u d m := by
 have e : partE a u d m = 0 := by rw [partE, if_neg h, if_neg hd, if_neg hq]
 exact ⟨e, by rw [partV, e]; rfl⟩
theorem partE_cases (a u d : Nat) (m : Bool) : (partE a u d m = 1 ∧ MX < a) ∨ (partE a u d m = 5 ∧ ¬ MX < a ∧ d = 0) ∨ (partE a u d m = 4 ∧ ¬ MX < a ∧ d ≠ 0 ∧ MX < partQ a u d m) ∨ (partE a u d m = 0 ∧ ¬ MX < a ∧ d ≠ 0 ∧ ¬ MX < partQ a u d m ∧ partV a u d m = partQ a u d m) := by
 by_cases h : MX < a
 · exact .inl ⟨(part_arg h).1, h⟩
 by_cases hd : d = 0
 · exact .inr (.inl ⟨(part_zero h hd).1, h, hd⟩)
 by_cases hq : MX < partQ a u d m
 · exact .inr (.inr (.inl ⟨(part_over h hd hq).1, h, hd, hq⟩))
 · exact .inr (.inr (.inr ⟨(part_ok h hd hq).1, h, hd, hq, (part_ok h hd hq).2⟩))
theorem partQ_down (a u d : Nat) : partQ a u d false = a * u / d := by simp [partQ]
theorem partQ_up (a u d : Nat) : partQ a u d true = a * u / d ∨ partQ a u d true = a * u / d + 1 := by
 unfold partQ
 split
 · exact .inr rfl
 · exact .inl rfl
theorem rounds (a b u d : Nat) :
   (partE a u d false = 0 → partE a u d true = 0 → partV a u d true = partV a u d false ∨ partV a u d true = partV a u d false + 1) ∧ (partE a u d true = 0 → partE a u d false = 0) ∧
   (partE a u d false = partE a u d true ∨ partE a u d true = 4) ∧ (partE a u d false = 0 → partE b u d false = 0 → a ≤ b → partV a u d false ≤ partV b u d false) := by
 have h1 := partE_cases a u d false
 have h2 := partE_cases a u d true
 have h3 := partE_cases b u d false
 have e1 := partQ_down a u d
 have e3 := partQ_down b u d
 have e2 := partQ_up a u d
 refine ⟨by omega, by omega, by omega, fun x y hab => ?_⟩
 have : a * u / d ≤ b * u / d := Nat.div_le_div_right (Nat.mul_le_mul_right _ hab)
 omega
end Go.Proofs.Ytcedmbdahbdmaaa
namespace Go.Proofs.Ytcedmbdahbdmaaa
open Go.RowKit
def val : List Nat → Nat
 | [] => 0
 | d :: ds => d + 65536 * val ds
def ok16 (ds : List Nat) : Prop := ∀ d ∈ ds, d < 65536
theorem val_append (a b : List Nat) : val (a ++ b) = val a + 65536 ^ a.length * val b := by
 induction a with
 | nil => simp [val]
 | cons d a ih =>
   simp only [List.cons_append, val, List.length_cons]
   rw [ih, Nat.mul_add, Nat.pow_succ, Nat.mul_comm (65536 ^ a.length) 65536, Nat.mul_assoc, Nat.add_assoc]
theorem val_snoc (a : List Nat) (d : Nat) : val (a ++ [d]) = val a + 65536 ^ a.length * d := by
 rw [val_append]
 simp [val]
theorem val_lt {ds : List Nat} (h : ok16 ds) : val ds < 65536 ^ ds.length := by
 induction ds with
 | nil => simp [val]
 | cons d ds ih =>
   have h1 := ih (fun x hx => h x (List.mem_cons_of_mem _ hx))
   have h2 := h d (List.mem_cons_self ..)
   simp only [val, List.length_cons, Nat.pow_succ]
   omega
theorem ok_snoc {ds : List Nat} {d : Nat} (h : ok16 ds) (hd : d < 65536) : ok16 (ds ++ [d]) := by
 intro x hx
 rcases List.mem_append.1 hx with hx | hx
 · exact h x hx
 · rw [List.mem_singleton.1 hx]
   exact hd
theorem ok_nil : ok16 [] := fun d hd => by simp at hd
theorem val_zeros (n : Nat) : val (List.replicate n 0) = 0 := by
 induction n with
 | zero => rfl
 | succ n ih => rw [List.replicate_succ, val, ih]
theorem val_take {ds : List Nat} {m d : Nat} (h : ds[m]? = some d) : val (ds.take (m + 1)) = val (ds.take m) + 65536 ^ m * d := by
 have hm : m < ds.length := (List.getElem?_eq_some_iff.1 h).1
 rw [List.take_add_one, h, Option.toList_some, val_snoc, List.length_take, Nat.min_eq_left (by omega)]
def dg (ds : List Nat) : List Value := ds.map fun d : Nat => Value.int .u64 (d : Int)
theorem dg_length (ds : List Nat) : (dg ds).length = ds.length := by simp [dg]
theorem dg_at {ds : List Nat} {j d : Nat} (h : ds[j]? = some d) : (dg ds)[j]? = some (.int .u64 (d : Int)) := by simp [dg, h]
theorem dg_append (a b : List Nat) : dg (a ++ b) = dg a ++ dg b := by simp [dg]
theorem dg_one (ds : List Nat) : ∀ v ∈ dg ds, v.oneCell' = true := by
 intro v hv
 simp [dg] at hv
 obtain ⟨b, _, rfl⟩ := hv
 rfl
end Go.Proofs.Ytcedmbdahbdmaaa
namespace Go.Proofs.Ytcedmbdahbdmaaa
open Go.RowKit
theorem n_rem (a k : Nat) : Int.tmod (a : Int) (k : Int) = ((a % k : Nat) : Int) := (Int.ofNat_tmod a k).symm
theorem n_quo {a : Nat} (k : Nat) (h : a < K) : IntKind.u64.wrap (Int.tdiv (a : Int) (k : Int)) = ((a / k : Nat) : Int) := by
 rw [← Int.ofNat_tdiv, IntKind.wrap_u64]
 have := Nat.div_le_self a k
 simp only [K] at h
 generalize a / k = q at *
 omega
theorem i_quo {a : Nat} (k : Nat) (h : a ≤ 9223372036854775807) : IntKind.i64.wrap (Int.tdiv (a : Int) (k : Int)) = ((a / k : Nat) : Int) := by
 rw [← Int.ofNat_tdiv]
 have := Nat.div_le_self a k
 generalize a / k = q at *
 rw [in_i64 (by omega)]
theorem ok_at {ds : List Nat} (h : ok16 ds) {j d : Nat} (hd : ds[j]? = some d) : d < 65536 := h d (List.mem_of_getElem? hd)
theorem GL.againB {P : Program} {ops : Array Oper} {i n id : Nat} {M : FM} {w : World} {X : Type} {Mx : X → FM} {J : X → World → Prop} {μ : X → Nat} {x : X} {Q : Exit → Act → World → Prop}
   (x' : X) (ts : List Nat) (hi : Nat.ble ops.size i = true) (hp : pick ts M = some (Mx x')) (hμ : μ x' < μ x) (hJ : J x' w) : GL P ops (Exit.inBlock id (Exit.then (Again n Mx J μ x) Q)) i n M w :=
 GL.done hi fun F hF hM => (⟨x', hμ, hJ, F, rfl, hF, hM.pick hp⟩ : Again n Mx J μ x ⟨F, []⟩ w)
section
variable {P : Program} {w0 w : World} {S : List Nat} {L : List Ent}
def u64Of (P : Program) (t : TypeId) : Option Nat :=
 match P.underlying t with
 | some (.slice e) => match P.info? e with
   | some i => match i.zero with
     | some (.int .u64 n) => if n = 0 ∧ i.size = 1 ∧ i.bytes = 8 then some e else none
     | _ => none
   | none => none
 | _ => none
theorem u64Of_spec {t e : Nat} (h : u64Of P t = some e) : ∃ i, P.underlying t = some (.slice e) ∧ P.info? e = some i ∧ i.zero = some (.int .u64 0) ∧ i.size = 1 ∧ i.bytes = 8 := by
 unfold u64Of at h
 split at h
 · rename_i e' he
   split at h
   · rename_i i hi
     split at h
     · rename_i n hn
       split at h
       · rename_i hc
         injection h with h
         subst h
         exact ⟨i, he, hi, by rw [hn, hc.1], hc.2.1, hc.2.2⟩
       · cases h
     · cases h
   · cases h
 · cases h
theorem made_zeros (n : Nat) : (madeCells (Value.int .u64 0).cells (n * 1)).toList = dg (List.replicate n 0) := by
 refine List.ext_getElem? (fun i => ?_)
 by_cases h : i < n
 · simp [madeCells, dg, h, Value.cells, Nat.mod_one]
 · simp [madeCells, dg, h, Value.cells]
theorem Hp.makeD (H : Hp w0 S L w) {t e n : Nat} {kl kc : IntKind} (ht : u64Of P t = some e) (hn : n ≤ 1099511627776) :
   ∃ b w', (Instr.makeSlice t (.int kl (n : Int)) (.int kc (n : Int))).run P w = .ok (.slice (some ⟨b, 0, none⟩) n n) w' ∧ Hp w0 S (L ++ [.row (some ⟨b, 0, none⟩) n n e 1 (dg (List.replicate n 0))]) w' := by
 obtain ⟨i, hu, hi, hz, hs, hb⟩ := u64Of_spec ht
 have hr := run_make (P := P) w t e i _ hu hi hz kl kc (n : Int) (n : Int) (by omega) (Int.le_refl _) (by rw [hb]; omega) (by omega)
 refine ⟨w.heap.size, _, hr, ?_⟩
 have H1 := H.new (dg (List.replicate n 0)) e
 have e1 : w.alloc (.cells (madeCells (Value.int .u64 0).cells ((n : Int).toNat * i.size)) e) = w.alloc (.cells (dg (List.replicate n 0)).toArray e) := by
   rw [hs, Int.toNat_natCast, ← made_zeros, Array.toArray_toList]
 rw [e1]
 have H2 := Hp.blkRow (b := w.heap.size) H1 (heap_alloc_new w _) (n := n) (c := n) (sz := 1) (Nat.le_refl _) (by simp only [maxLen]; omega) (by rw [dg_length]; simp)
 rwa [List.take_of_length_le (by rw [dg_length]; simp)] at H2
end
end Go.Proofs.Ytcedmbdahbdmaaa
namespace Go.Proofs.Ytcedmbdahbdmaaa
open Go.RowKit
def putB : Nat → Nat → List UInt8
 | _, 0 => []
 | x, n + 1 => UInt8.ofNat x :: putB (x / 256) n
def getB : List UInt8 → Nat
 | [] => 0
 | b :: bs => b.toNat + 256 * getB bs
theorem putB_length : ∀ (n x : Nat), (putB x n).length = n
 | 0, _ => rfl
 | n + 1, x => by rw [putB, List.length_cons, putB_length n]
theorem u8_ofNat (x : Nat) : (UInt8.ofNat x).toNat = x % 256 := by simp
theorem n_byte (x : Nat) : IntKind.u8.wrap (x : Int) = (((UInt8.ofNat x).toNat : Nat) : Int) := by rw [IntKind.wrap_u8, u8_ofNat]; omega
theorem putB_snoc : ∀ (i x : Nat), putB x (i + 1) = putB x i ++ [UInt8.ofNat (x / 256 ^ i)]
 | 0, x => by simp [putB]
 | i + 1, x => by
   rw [putB, putB_snoc i (x / 256), putB, Nat.pow_succ, Nat.mul_comm, ← Nat.div_div_eq_div_mul]
   rfl
theorem getB_lt : ∀ bs : List UInt8, getB bs < 256 ^ bs.length
 | [] => by simp [getB]
 | b :: bs => by
   have h1 := getB_lt bs
   have h2 := UInt8.toNat_lt b
   rw [getB, List.length_cons, Nat.pow_succ]
   omega
theorem getB_put : ∀ (n x : Nat), getB (putB x n) = x % 256 ^ n
 | 0, x => by simp [getB, putB, Nat.mod_one]
 | n + 1, x => by rw [putB, getB, getB_put n, u8_ofNat, Nat.pow_succ, Nat.mul_comm (256 ^ n), Nat.mod_mul]
theorem putB_get : ∀ bs : List UInt8, putB (getB bs) bs.length = bs
 | [] => rfl
 | b :: bs => by
   have h2 := UInt8.toNat_lt b
   have e1 : UInt8.ofNat (b.toNat + 256 * getB bs) = b := UInt8.toNat_inj.1 (by rw [u8_ofNat]; omega)
   have e2 : (b.toNat + 256 * getB bs) / 256 = getB bs := by omega
   rw [getB, List.length_cons, putB, e1, e2, putB_get bs]
theorem getB_drop {bs : List UInt8} {k : Nat} {b : UInt8} (h : bs[k]? = some b) : getB (bs.drop k) = b.toNat + 256 * getB (bs.drop (k + 1)) := by
 obtain ⟨hk, hx⟩ := List.getElem?_eq_some_iff.1 h
 rw [List.drop_eq_getElem_cons hk, hx, getB]
theorem or_low {x b : Nat} (hx : x < 72057594037927936) (hb : b < 256) : Go.bits .or .u64 ((x * 2 ^ 8 : Nat) : Int) (b : Int) = ((b + 256 * x : Nat) : Int) := by
 have h1 : x * 2 ^ 8 < K := by simp only [K]; omega
 rw [n_or h1 (Nat.lt_trans hb (by decide)), Nat.mul_comm, ← Nat.two_pow_add_eq_or_of_lt (i := 8) hb]
 congr 1
 omega
section
variable {P : Program} {w0 w w' : World} {S : List Nat} {A B A' : List Ent}
theorem Hp.startL (H : Hp w0 S (A ++ B) w) : Hp w (ids A) A w :=
 ⟨rfl, rfl, rfl, Nat.le_refl _, fun _ _ _ => rfl, fun e he => H.ents e (List.mem_append_left _ he), fun _ hk => .inr hk, by have := H.nd; rw [ids_append] at this; exact (List.nodup_append.1 this).1⟩
theorem Hp.callL (H : Hp w0 S (A ++ B) w) (H' : Hp w (ids A) A' w') : Hp w0 S (A' ++ B) w' := by
 have hnd := H.nd
 rw [ids_append] at hnd
 obtain ⟨n1, n2, n3⟩ := List.nodup_append.1 hnd
 refine ⟨H'.os.trans H.os, H'.tape.trans H.tape, H'.output.trans H.output, Nat.le_trans H.size H'.size, ?_, ?_, ?_, ?_⟩
 · intro k hk hS
   refine (H'.keep k (Nat.lt_of_lt_of_le hk H.size) (fun hin => ?_)).trans (H.keep k hk hS)
   rcases H.old k (by rw [ids_append]; exact List.mem_append_left _ hin) with h | h
   · omega
   · exact hS h
 · intro e he
   rcases List.mem_append.1 he with he | he
   · exact H'.ents e he
   · have hh := H.ents e (List.mem_append_right _ he)
     refine Ent.same hh (fun k hk => H'.keep k (Ent.lt hh k hk) (fun hin => ?_))
     exact n3 k hin k (ids_mem he hk) rfl
 · intro k hk
   rw [ids_append] at hk
   rcases List.mem_append.1 hk with hk | hk
   · rcases H'.old k hk with h | h
     · exact .inl (Nat.le_trans H.size h)
     · exact H.old k (by rw [ids_append]; exact List.mem_append_left _ h)
   · exact H.old k (by rw [ids_append]; exact List.mem_append_right _ hk)
 · rw [ids_append]
   refine List.nodup_append.2 ⟨H'.nd, n2, fun a ha b hb hab => ?_⟩
   subst hab
   rcases H'.old a ha with h | h
   · have := H.lt a (by rw [ids_append]; exact List.mem_append_right _ hb)
     omega
   · exact n3 a h a hb rfl
end
def Cut (R : Option Addr) (whole : List UInt8) (A' : Option Addr) (rest : List UInt8) : Prop := ∀ W, RdS W R (by8 whole) → RdS W A' (by8 rest)
theorem Cut.refl (R : Option Addr) (whole : List UInt8) : Cut R whole R whole := fun _ h => h
theorem Cut.nil (R : Option Addr) (whole : List UInt8) (A' : Option Addr) : Cut R whole A' [] := fun W _ => RdS.nil W A'
theorem Cut.drop {R A' : Option Addr} {whole rest : List UInt8} {cap : Nat} (h : Cut R whole A' rest) (n : Nat) (hc : rest.length ≤ cap) : Cut R whole (if cap = n then A' else A'.map (·.add n)) (rest.drop n) := fun W hW => RdS.drop8 (h W hW) n hc rfl
def rOK (wr : Bool) (rest : List UInt8) (n : Nat) : Bool := !wr && decide (n ≤ rest.length)
def rV (wr : Bool) (rest : List UInt8) (n : Nat) : List UInt8 := if rOK wr rest n then rest.take n else []
def rR (wr : Bool) (rest : List UInt8) (n : Nat) : List UInt8 := if rOK wr rest n then rest.drop n else []
theorem rOK_true {rest : List UInt8} {n : Nat} (h : n ≤ rest.length) : rOK false rest n = true ∧ rV false rest n = rest.take n ∧ rR false rest n = rest.drop n := by
 have : rOK false rest n = true := by simp [rOK, h]
 exact ⟨this, if_pos this, if_pos this⟩
theorem rOK_false {wr : Bool} {rest : List UInt8} {n : Nat} (h : wr = true ∨ rest.length < n) : rOK wr rest n = false ∧ rV wr rest n = [] ∧ rR wr rest n = [] := by
 have : rOK wr rest n = false := by
   rcases h with h | h
   · simp [rOK, h]
   · simp only [rOK, Bool.and_eq_false_iff, decide_eq_false_iff_not]
     exact .inr (by omega)
 exact ⟨this, by rw [rV, this]; rfl, by rw [rR, this]; rfl⟩
theorem rV_le (wr : Bool) (rest : List UInt8) (n : Nat) : (rV wr rest n).length ≤ n := by
 unfold rV
 split
 · simp; omega
 · simp
theorem rR_le (wr : Bool) (rest : List UInt8) (n : Nat) : (rR wr rest n).length ≤ rest.length := by
 unfold rR
 split
 · simp
 · simp
end Go.Proofs.Ytcedmbdahbdmaaa
namespace Go.Proofs.Ytcedmbdahbdmaaa
open Go.RowKit
section
variable {P : Program} {w0 w w' : World} {S : List Nat} {L : List Ent}
theorem run_remN {t : TypeId} {a b v : Nat} (hb : b ≠ 0) (hv : v = a % b) (w : World) : (binOp .rem t (.int .u64 (a : Int)) (.int .u64 (b : Int))).run P w = .ok (.int .u64 (v : Int)) w := by
 rw [run_rem (by omega), n_rem, ← hv]
end
end Go.Proofs.Ytcedmbdahbdmaaa
namespace Go.Proofs.Ytcedmbdahbdmaaa
open Go.RowKit Go.ChangeShapes Go.WideShapes Go.ChangeAt
section
variable {P : Program} {w : World}
theorem run_idxRdN {t sz len cap : Nat} {A : Option Addr} {k : IntKind} {i : Int} {j : Nat} {xs : List Value} (ht : slcOf P t = some sz) (hi : i = (j : Int)) (hr : RdS w A xs) (hx : xs.length = len * sz) (hsz : 0 < sz) (hj : j < len) :
   (Instr.indexAt t (.slice A len cap) (.int k i)).run P w = .ok (.pointer (A.map (·.add (j * sz)))) w := by
 have hlt : j * sz < xs.length := by rw [hx]; exact Nat.mul_lt_mul_of_pos_right hj hsz
 obtain ⟨a, rfl, _⟩ := hr.cell (j := j * sz) (List.getElem?_eq_getElem hlt)
 rw [run_idxSl ht hi hj]
 simp
theorem run_ldRdA {ty m o : Nat} {A : Option Addr} {xs sub : List Value} (hs : aggSz P ty = some m) (hr : RdS w A xs) (hsub : (xs.drop o).take m = sub) (hl : sub.length = m) (hm : 0 < m) :
   (Instr.loadAt ty (.pointer (A.map (·.add o)))).run P w = .ok (.agg sub.toArray) w := by
 have hget : ∀ j, j < m → xs[o + j]? = sub[j]? := by
   intro j hj
   rw [← hsub, List.getElem?_take_of_lt hj, List.getElem?_drop]
 have h0 : xs[o]? = some sub[0] := by
   have := hget 0 hm
   rw [Nat.add_zero] at this
   rw [this, List.getElem?_eq_getElem (by omega)]
 obtain ⟨a, rfl, _⟩ := hr.cell h0
 have h1 : (loadCells (a.add o) sub.length).run P w = .ok sub.toArray w := by
   refine run_loadCells_list (P := P) w (a.add o) sub (fun j v hv => ?_)
   have hj : j < m := by
     rw [← hl]
     exact (List.getElem?_eq_some_iff.1 hv).1
   obtain ⟨a', ha', hc⟩ := hr.cell ((hget j hj).trans hv)
   injection ha' with ha'
   subst ha'
   rw [add_add]
   exact hc
 rw [hl] at h1
 simp [Instr.loadAt, Instr.sureAddr, loadVar, run_isAgg_agg hs, run_sizeOf_agg hs, h1]
end
section
variable {H : Type} {enc : TypeId × Value → H} {P : Program} {w : World} {sp : Nat → Bool} {held : Bool}
theorem open_structs {t e : TypeId} {fuel : Nat} {cs : List Value} {x : DataW H × List MemPlace} (sz : Nat) (ht : P.underlying t = some (.slice e)) (hc : P.cellsOf e = sz) (hsz : 0 < sz) (h : DataW.trod enc P w 0 sp held fuel t cs = some x) :
   ∃ (A : Option Addr) (n c : Nat) (xs : List Value), cs = [.slice A n c] ∧ RdS w A xs ∧ xs.length = n * sz ∧ n ≤ c ∧ c ≤ maxLen ∧ ∀ i, i < n → ((xs.drop (i * sz)).take sz).length = sz ∧ ∃ m y, DataW.trod enc P w 0 sp held m e ((xs.drop (i * sz)).take sz) = some y := by
 rcases Go.Deep.open_slice ht h with ⟨rfl, _⟩ | ⟨a, len, cap, m, nf, D, Pl, rfl, _, hl, hm, hmm, _, hx⟩
 · exact ⟨none, 0, 0, [], rfl, .inl rfl, by simp, Nat.le_refl _, Nat.zero_le _, fun i hi => by omega⟩
 · rw [hc] at hx
   have hle : len ≤ m := by rw [hmm]; split <;> omega
   have hC : ∀ i, ∃ cs' : List Value, i < len → (w.cells? 0 (a.add (i * sz)) sz = some cs' ∧ DataW.trod enc P w 0 sp held nf e cs' = some (D i, Pl i)) := by
     intro i
     by_cases hi : i < len
     · obtain ⟨cs', h1, h2⟩ := hx i (by omega)
       exact ⟨cs', fun _ => ⟨h1, h2⟩⟩
     · exact ⟨[], fun hh => absurd hh hi⟩
   let E : Nat → List Value := fun i => Classical.choose (hC i)
   have hE : ∀ i, i < len → w.cells? 0 (a.add (i * sz)) sz = some (E i) ∧ DataW.trod enc P w 0 sp held nf e (E i) = some (D i, Pl i) := fun i => Classical.choose_spec (hC i)
   have hEl : ∀ i, i < len → (E i).length = sz ∧ ∀ r v, (E i)[r]? = some v → w.cell? ((a.add (i * sz)).add r) = some v := by
     intro i hi
     obtain ⟨_, h1, h2⟩ := World.cells?_some (hE i hi).1
     refine ⟨h1, fun r v hv => ?_⟩
     have hr : r < sz := by rw [← h1]; exact (List.getElem?_eq_some_iff.1 hv).1
     have := h2 r hr
     rw [this, ← hv]
   refine ⟨some a, len, cap, (List.range (len * sz)).map fun j => ((E (j / sz))[j % sz]?).getD undef, rfl, ?_, by simp, hl, hm, fun i hi => ?_⟩
   · by_cases h0 : len = 0
     · exact .inl (by simp [h0])
     · have hcell : ∀ j v, ((List.range (len * sz)).map fun j => ((E (j / sz))[j % sz]?).getD undef)[j]? = some v → w.cell? (a.add j) = some v := by
         intro j v hv
         have hj : j < len * sz := by
           have := (List.getElem?_eq_some_iff.1 hv).1
           simpa using this
         simp [hj] at hv
         have hq : j / sz < len := Nat.div_lt_of_lt_mul (by rw [Nat.mul_comm]; exact hj)
         have hr : j % sz < sz := Nat.mod_lt _ hsz
         obtain ⟨h1, h2⟩ := hEl _ hq
         have h3 : (E (j / sz))[j % sz]? = some v := by rw [List.getElem?_eq_getElem (by omega)] at hv ⊢; simpa using hv
         have h4 := h2 _ _ h3
         rwa [add_add, Nat.div_add_mod'] at h4
       refine .inr ⟨a, rfl, ?_, hcell⟩
       have hpos : 0 < len * sz := Nat.mul_pos (by omega) hsz
       have h1 := hcell 0 _ (List.getElem?_eq_getElem (by simpa using hpos))
       have h2 := block_lt_of_cell h1
       rwa [add_block] at h2
   · have hEi := hEl i hi
     have e1 : (((List.range (len * sz)).map fun j => ((E (j / sz))[j % sz]?).getD undef).drop (i * sz)).take sz = E i := by
       refine List.ext_getElem? (fun r => ?_)
       by_cases hr : r < sz
       · have hlt : i * sz + r < len * sz := by
           have := Nat.mul_le_mul_right sz (show i + 1 ≤ len by omega)
           rw [Nat.add_mul, Nat.one_mul] at this
           omega
         rw [List.getElem?_take_of_lt hr, List.getElem?_drop]
         have hd : (i * sz + r) / sz = i := by rw [Nat.mul_comm, Nat.mul_add_div hsz, Nat.div_eq_of_lt hr, Nat.add_zero]
         have hmo : (i * sz + r) % sz = r := by rw [Nat.mul_comm, Nat.mul_add_mod, Nat.mod_eq_of_lt hr]
         simp [hlt, hd, hmo]
         rw [List.getElem?_eq_getElem (by omega)]
         rfl
       · rw [List.getElem?_eq_none (by simp; omega), List.getElem?_eq_none (by omega)]
     rw [e1]
     exact ⟨hEi.1, nf, _, (hE i hi).2⟩
end
end Go.Proofs.Ytcedmbdahbdmaaa
namespace Go.Proofs.Ytcedmbdahbdmaaa
open Go.RowKit
def cntSz (x : Nat) : Nat := if x < 253 then 1 else if x < 65536 then 3 else if x < 4294967296 then 5 else 9
def cnt (x : Nat) : List UInt8 := if x < 253 then putB x 1 else if x < 65536 then putB 253 1 ++ putB x 2 else if x < 4294967296 then putB 254 1 ++ putB x 4 else putB 255 1 ++ putB x 8
theorem cnt_cases (x : Nat) : (x < 253 ∧ cntSz x = 1 ∧ cnt x = putB x 1) ∨ (253 ≤ x ∧ x < 65536 ∧ cntSz x = 3 ∧ cnt x = putB 253 1 ++ putB x 2) ∨ (65536 ≤ x ∧ x < 4294967296 ∧ cntSz x = 5 ∧ cnt x = putB 254 1 ++ putB x 4) ∨ (4294967296 ≤ x ∧ cntSz x = 9 ∧ cnt x = putB 255 1 ++ putB x 8) := by
 unfold cntSz cnt
 by_cases h1 : x < 253
 · rw [if_pos h1, if_pos h1]
   exact .inl ⟨h1, rfl, rfl⟩
 · rw [if_neg h1, if_neg h1]
   by_cases h2 : x < 65536
   · rw [if_pos h2, if_pos h2]
     exact .inr (.inl ⟨by omega, h2, rfl, rfl⟩)
   · rw [if_neg h2, if_neg h2]
     by_cases h3 : x < 4294967296
     · rw [if_pos h3, if_pos h3]
       exact .inr (.inr (.inl ⟨by omega, h3, rfl, rfl⟩))
     · rw [if_neg h3, if_neg h3]
       exact .inr (.inr (.inr ⟨by omega, rfl, rfl⟩))
theorem cnt_length (x : Nat) : (cnt x).length = cntSz x := by
 rcases cnt_cases x with ⟨_, h, e⟩ | ⟨_, _, h, e⟩ | ⟨_, _, h, e⟩ | ⟨_, h, e⟩ <;> rw [e, h] <;> simp [putB_length]
theorem cntSz_le (x : Nat) : 1 ≤ cntSz x ∧ cntSz x ≤ 9 := by
 rcases cnt_cases x with ⟨_, h, _⟩ | ⟨_, _, h, _⟩ | ⟨_, _, h, _⟩ | ⟨_, h, _⟩ <;> omega
def ctN (wr : Bool) (rest : List UInt8) : Nat := if getB (rV wr rest 1) = 253 then 2 else if getB (rV wr rest 1) = 254 then 4 else if getB (rV wr rest 1) = 255 then 8 else 0
def ctX (wr : Bool) (rest : List UInt8) : Nat := if ctN wr rest = 0 then getB (rV wr rest 1) else getB (rV (!(rOK wr rest 1)) (rR wr rest 1) (ctN wr rest))
def ctW (wr : Bool) (rest : List UInt8) : Bool := if ctN wr rest = 0 then !(rOK wr rest 1) else !(rOK (!(rOK wr rest 1)) (rR wr rest 1) (ctN wr rest))
def ctT (wr : Bool) (rest : List UInt8) : List UInt8 := if ctN wr rest = 0 then rR wr rest 1 else rR (!(rOK wr rest 1)) (rR wr rest 1) (ctN wr rest)
def ctOK (wr : Bool) (rest : List UInt8) (most : Nat) : Bool := !(ctW wr rest) && (decide (cntSz (ctX wr rest) = ctN wr rest + 1) && decide (ctX wr rest ≤ most))
def ctV (wr : Bool) (rest : List UInt8) (most : Nat) : Nat := if ctOK wr rest most then ctX wr rest else 0
def ctR (wr : Bool) (rest : List UInt8) (most : Nat) : List UInt8 := if ctOK wr rest most then ctT wr rest else []
theorem ct_short {wr : Bool} {rest : List UInt8} (h : ctN wr rest = 0) : ctX wr rest = getB (rV wr rest 1) ∧ ctW wr rest = !(rOK wr rest 1) ∧ ctT wr rest = rR wr rest 1 := ⟨if_pos h, if_pos h, if_pos h⟩
theorem ct_long {wr : Bool} {rest : List UInt8} {n : Nat} (h : ctN wr rest = n) (hn : n ≠ 0) : ctX wr rest = getB (rV (!(rOK wr rest 1)) (rR wr rest 1) n) ∧ ctW wr rest = !(rOK (!(rOK wr rest 1)) (rR wr rest 1) n) ∧ ctT wr rest = rR (!(rOK wr rest 1)) (rR wr rest 1) n := by
 subst h
 exact ⟨if_neg hn, if_neg hn, if_neg hn⟩
theorem ct_ok {wr : Bool} {rest : List UInt8} {most : Nat} (h1 : ctW wr rest = false) (h2 : cntSz (ctX wr rest) = ctN wr rest + 1) (h3 : ctX wr rest ≤ most) : ctOK wr rest most = true ∧ ctV wr rest most = ctX wr rest ∧ ctR wr rest most = ctT wr rest := by
 have e : ctOK wr rest most = true := by rw [ctOK, h1, decide_eq_true h2, decide_eq_true h3]; rfl
 exact ⟨e, by rw [ctV, e]; rfl, by rw [ctR, e]; rfl⟩
theorem ct_bad {wr : Bool} {rest : List UInt8} {most : Nat} (h : ctW wr rest = true ∨ cntSz (ctX wr rest) ≠ ctN wr rest + 1 ∨ ¬ ctX wr rest ≤ most) : ctOK wr rest most = false ∧ ctV wr rest most = 0 ∧ ctR wr rest most = [] := by
 have e : ctOK wr rest most = false := by
   unfold ctOK
   rcases h with h | h | h
   · rw [h]; rfl
   · rw [decide_eq_false h]; simp
   · rw [decide_eq_false h]; simp
 exact ⟨e, by rw [ctV, e]; rfl, by rw [ctR, e]; rfl⟩
theorem ctV_le (wr : Bool) (rest : List UInt8) (most : Nat) : ctV wr rest most ≤ most := by
 unfold ctV
 split
 · rename_i h
   simp only [ctOK, Bool.and_eq_true, decide_eq_true_eq] at h
   exact h.2.2
 · omega
theorem ctR_le (wr : Bool) (rest : List UInt8) (most : Nat) : (ctR wr rest most).length ≤ rest.length := by
 unfold ctR ctT
 repeat' split
 · exact rR_le _ _ _
 · exact Nat.le_trans (rR_le _ _ _) (rR_le _ _ _)
 · simp
def cdV (wr : Bool) (rest : List UInt8) (most : Nat) : List UInt8 := rV (!(ctOK wr rest most)) (ctR wr rest most) (ctV wr rest most)
def cdR (wr : Bool) (rest : List UInt8) (most : Nat) : List UInt8 := rR (!(ctOK wr rest most)) (ctR wr rest most) (ctV wr rest most)
def cdOK (wr : Bool) (rest : List UInt8) (most : Nat) : Bool := rOK (!(ctOK wr rest most)) (ctR wr rest most) (ctV wr rest most)
theorem cdR_le (wr : Bool) (rest : List UInt8) (most : Nat) : (cdR wr rest most).length ≤ rest.length := Nat.le_trans (rR_le _ _ _) (ctR_le _ _ _)
def cnN (bs : List UInt8) : Nat := if (bs.getD 0 0).toNat < 253 then 0 else 2 * 2 ^ ((bs.getD 0 0).toNat - 253)
def cnX (bs : List UInt8) : Nat := if (bs.getD 0 0).toNat < 253 then (bs.getD 0 0).toNat else getB ((bs.take (cnN bs + 1)).drop 1)
def cnOK (bs : List UInt8) : Bool := decide (bs.length ≠ 0) && (decide (cnN bs + 1 ≤ bs.length) && decide (cntSz (cnX bs) = cnN bs + 1))
theorem cn_ct {bs : List UInt8} (h : bs.length ≠ 0) : ctN false bs = cnN bs ∧ (cnN bs + 1 ≤ bs.length → ctX false bs = cnX bs ∧ ctW false bs = false ∧ ctT false bs = bs.drop (cnN bs + 1)) ∧ (¬ cnN bs + 1 ≤ bs.length → ctW false bs = true) := by
 obtain ⟨o1, o2, o3⟩ := rOK_true (rest := bs) (n := 1) (by omega)
 cases bs with
 | nil => simp at h
 | cons b t =>
   have hb : b.toNat < 256 := b.toNat_lt
   have e1 : getB (rV false (b :: t) 1) = b.toNat := by rw [o2]; simp [getB]
   have e2 : ((b :: t).getD 0 0) = b := rfl
   have eN : ctN false (b :: t) = cnN (b :: t) := by
     unfold ctN cnN
     rw [e1, e2]
     by_cases h1 : b.toNat < 253
     · rw [if_neg (by omega), if_neg (by omega), if_neg (by omega), if_pos h1]
     · rw [if_neg h1]
       have : b.toNat = 253 ∨ b.toNat = 254 ∨ b.toNat = 255 := by omega
       rcases this with h | h | h <;> rw [h] <;> rfl
   refine ⟨eN, fun hl => ?_, fun hl => ?_⟩
   · by_cases h1 : b.toNat < 253
     · have hn : cnN (b :: t) = 0 := by unfold cnN; rw [e2, if_pos h1]
       obtain ⟨s1, s2, s3⟩ := ct_short (eN.trans hn)
       rw [s1, s2, s3, hn, o1, o3, e1]
       exact ⟨by unfold cnX; rw [e2, if_pos h1], rfl, rfl⟩
     · have hn : cnN (b :: t) ≠ 0 := by
         unfold cnN
         rw [e2, if_neg h1]
         exact Nat.ne_of_gt (Nat.mul_pos (by decide) (Nat.pow_pos (by decide)))
       obtain ⟨s1, s2, s3⟩ := ct_long eN hn
       rw [o1, o3] at s1 s2 s3
       have hd : (b :: t).drop 1 = t := rfl
       have hl2 : cnN (b :: t) ≤ ((b :: t).drop 1).length := by simp only [List.length_cons] at hl; rw [hd]; omega
       obtain ⟨q1, q2, q3⟩ := rOK_true (rest := (b :: t).drop 1) hl2
       refine ⟨?_, ?_, ?_⟩
       · rw [s1, show (!true) = false from rfl, q2, cnX, e2, if_neg h1, hd, List.take_succ_cons, List.drop_succ_cons, List.drop_zero]
       · rw [s2, show (!true) = false from rfl, q1]; rfl
       · rw [s3, show (!true) = false from rfl, q3, hd, List.drop_succ_cons]
   · have hn : cnN (b :: t) ≠ 0 := by simp only [List.length_cons] at hl; omega
     obtain ⟨_, s2, _⟩ := ct_long eN hn
     rw [o1, o3, show (!true) = false from rfl] at s2
     rw [s2, (rOK_false (.inr (show ((b :: t).drop 1).length < cnN (b :: t) by simp only [List.length_cons] at hl; simp only [List.length_drop, List.length_cons]; omega))).1]
     rfl
theorem ct_cn (bs : List UInt8) (most : Nat) : ctOK false bs most = (cnOK bs && decide (cnX bs ≤ most)) ∧ ctV false bs most = (if (cnOK bs && decide (cnX bs ≤ most)) = true then cnX bs else 0) ∧ ctR false bs most = (if (cnOK bs && decide (cnX bs ≤ most)) = true then bs.drop (cnN bs + 1) else []) := by
 have key : ctOK false bs most = (cnOK bs && decide (cnX bs ≤ most)) := by
   by_cases h0 : bs.length = 0
   · have hb : bs = [] := List.eq_nil_of_length_eq_zero h0
     subst hb
     rfl
   · obtain ⟨a, b, c⟩ := cn_ct h0
     unfold ctOK cnOK
     rw [decide_eq_true h0, a]
     by_cases hl : cnN bs + 1 ≤ bs.length
     · obtain ⟨b1, b2, b3⟩ := b hl
       rw [b1, b2, decide_eq_true hl]
       simp
     · rw [c hl, decide_eq_false hl]
       simp
 refine ⟨key, ?_, ?_⟩
 · unfold ctV
   rw [key]
   by_cases h : (cnOK bs && decide (cnX bs ≤ most)) = true
   · rw [if_pos h, if_pos h]
     simp only [Bool.and_eq_true, cnOK, decide_eq_true_eq] at h
     exact ((cn_ct h.1.1).2.1 h.1.2.1).1
   · rw [if_neg h, if_neg h]
 · unfold ctR
   rw [key]
   by_cases h : (cnOK bs && decide (cnX bs ≤ most)) = true
   · rw [if_pos h, if_pos h]
     simp only [Bool.and_eq_true, cnOK, decide_eq_true_eq] at h
     exact ((cn_ct h.1.1).2.1 h.1.2.1).2.2
   · rw [if_neg h, if_neg h]
theorem cn_cnt {x : Nat} (hx : x < 18446744073709551616) (t : List UInt8) : cnOK (cnt x ++ t) = true ∧ cnX (cnt x ++ t) = x ∧ (cnt x ++ t).drop (cnN (cnt x ++ t) + 1) = t ∧ cnN (cnt x ++ t) + 1 = cntSz x := by
 have hl := cnt_length x
 have key : cnN (cnt x ++ t) + 1 = cntSz x ∧ cnX (cnt x ++ t) = x := by
   rcases cnt_cases x with ⟨h1, h, e⟩ | ⟨h0, h1, h, e⟩ | ⟨h0, h1, h, e⟩ | ⟨h0, h, e⟩
   · have hb : ((cnt x ++ t).getD 0 0).toNat = x := by
       rw [e]
       show (UInt8.ofNat x).toNat = x
       rw [u8_ofNat]
       omega
     refine ⟨?_, ?_⟩
     · unfold cnN
       rw [hb, if_pos h1, h]
     · unfold cnX
       rw [hb, if_pos h1]
   · have hb : ((cnt x ++ t).getD 0 0).toNat = 253 := by rw [e]; rfl
     have hn : cnN (cnt x ++ t) = 2 := by unfold cnN; rw [hb]; rfl
     refine ⟨by rw [hn, h], ?_⟩
     unfold cnX
     rw [hb, if_neg (by decide), hn, e]
     show getB ((putB x 2 ++ t).take 2) = x
     rw [List.take_left' (putB_length 2 x), getB_put]
     omega
   · have hb : ((cnt x ++ t).getD 0 0).toNat = 254 := by rw [e]; rfl
     have hn : cnN (cnt x ++ t) = 4 := by unfold cnN; rw [hb]; rfl
     refine ⟨by rw [hn, h], ?_⟩
     unfold cnX
     rw [hb, if_neg (by decide), hn, e]
     show getB ((putB x 4 ++ t).take 4) = x
     rw [List.take_left' (putB_length 4 x), getB_put]
     omega
   · have hb : ((cnt x ++ t).getD 0 0).toNat = 255 := by rw [e]; rfl
     have hn : cnN (cnt x ++ t) = 8 := by unfold cnN; rw [hb]; rfl
     refine ⟨by rw [hn, h], ?_⟩
     unfold cnX
     rw [hb, if_neg (by decide), hn, e]
     show getB ((putB x 8 ++ t).take 8) = x
     rw [List.take_left' (putB_length 8 x), getB_put]
     omega
 obtain ⟨k1, k2⟩ := key
 have hs := (cntSz_le x).1
 refine ⟨?_, k2, ?_, k1⟩
 · unfold cnOK
   rw [k1, k2, decide_eq_true (show (cnt x ++ t).length ≠ 0 by rw [List.length_append]; omega), decide_eq_true (show cntSz x ≤ (cnt x ++ t).length by rw [List.length_append]; omega), decide_eq_true rfl]
   rfl
 · rw [k1, ← hl, List.drop_left']
   rfl
section
variable {P : Program} {w0 w w' : World} {S : List Nat} {L A' B' : List Ent}
def RdO (w : World) (S : List Nat) (A : Option Addr) (xs : List Value) : Prop :=
 ∀ W : World, w.heap.size ≤ W.heap.size → (∀ k, k < w.heap.size → k ∉ S → W.heap[k]? = w.heap[k]?) → RdS W A xs
theorem RdO.hp {A : Option Addr} {xs : List Value} (h : RdO w S A xs) (H : Hp w S L w') : RdS w' A xs := h w' H.size H.keep
theorem RdO.of {A : Option Addr} {xs : List Value} (h : RdS w A xs) : RdO w [] A xs := by
 intro W hs hk
 rcases h with h | ⟨a, hA, ha, hc⟩
 · exact .inl h
 · refine .inr ⟨a, hA, Nat.lt_of_lt_of_le ha hs, fun j v hv => ?_⟩
   rw [World.cell?_of_block (w := w) (hk (a.add j).block (by rw [add_block]; exact ha) (by simp))]
   exact hc j v hv
theorem RdO.mid {A : Option Addr} {xs : List Value} (h : RdO w0 S A xs) (H : Hp w0 S (A' ++ B') w) : RdO w (ids A') A xs := by
 intro W hs hk
 refine h W (Nat.le_trans H.size hs) (fun k hk0 hS => ?_)
 refine (hk k (Nat.lt_of_lt_of_le hk0 H.size) (fun hin => ?_)).trans (H.keep k hk0 hS)
 rcases H.old k (by rw [ids_append]; exact List.mem_append_left _ hin) with h | h
 · omega
 · exact hS h
theorem RdO.row (H : Hp w0 S (A' ++ B') w) (i : Nat) {R : Option Addr} {n c e : Nat} {xs : List Value} (hL : B'[i]? = some (.row R n c e 1 xs)) : RdO w (ids A') R xs := by
 have hr : RdS w R xs := RdS.row (H.ents _ (List.mem_append_right _ (List.mem_of_getElem? hL)))
 have hnd := H.nd
 rw [ids_append] at hnd
 obtain ⟨_, _, n3⟩ := List.nodup_append.1 hnd
 intro W hs hk
 rcases hr with h | ⟨a, hA, ha, hc⟩
 · exact .inl h
 · refine .inr ⟨a, hA, Nat.lt_of_lt_of_le ha hs, fun j v hv => ?_⟩
   have hb : (a.add j).block = a.block := add_block a j
   rw [World.cell?_of_block (w := w) (hk (a.add j).block (by rw [hb]; exact ha) (fun hin => ?_))]
   · exact hc j v hv
   · rw [hb] at hin
     exact n3 _ hin _ (ids_mem (List.mem_of_getElem? hL) (by subst hA; simp [Ent.ids])) rfl
end
section
variable {H : Type} {enc : TypeId × Value → H} {P : Program} {w : World} {sp : Nat → Bool} {held : Bool}
theorem four_of {cs : List Value} {a b c d : Value} (hl : cs.length = 4) (h0 : cs[0]? = some a) (h1 : cs[1]? = some b) (h2 : cs[2]? = some c) (h3 : cs[3]? = some d) : cs = [a, b, c, d] := by
 match cs, hl with
 | [x, y, z, t], _ =>
   simp at h0 h1 h2 h3
   rw [h0, h1, h2, h3]
end
end Go.Proofs.Ytcedmbdahbdmaaa
namespace Go.Proofs.Ytcedmbdahbdmaaa
open Go.RowKit Go.ChangeShapes Go.WideShapes Go.ChangeAt
structure TIn where
 fr : List UInt8
 ix : Nat
 B : Option Addr
 kb : List UInt8
 kc : Nat
 sq : Nat
structure TOut where
 pv : Nat
 B : Option Addr
 lb : List UInt8
 lc : Nat
def TIn.cells (x : TIn) : List Value := by8 x.fr ++ [.int .u32 (x.ix : Int), .slice x.B x.kb.length x.kc, .int .u32 (x.sq : Int)]
def TOut.cells (x : TOut) : List Value := [.int .u64 (x.pv : Int), .slice x.B x.lb.length x.lc]
def insC (l : List TIn) : List Value := l.flatMap TIn.cells
def outsC (l : List TOut) : List Value := l.flatMap TOut.cells
def TIn.bytes (x : TIn) : List UInt8 := x.fr ++ (putB x.ix 4 ++ ((cnt x.kb.length ++ x.kb) ++ putB x.sq 4))
def TOut.bytes (x : TOut) : List UInt8 := putB x.pv 8 ++ (cnt x.lb.length ++ x.lb)
def insB (l : List TIn) : List UInt8 := l.flatMap TIn.bytes
def outsB (l : List TOut) : List UInt8 := l.flatMap TOut.bytes
def txB (v : Nat) (ins : List TIn) (outs : List TOut) (lt : Nat) : List UInt8 := putB v 4 ++ (cnt ins.length ++ (insB ins ++ (cnt outs.length ++ (outsB outs ++ putB lt 4))))
def TIn.nil : TIn := ⟨List.replicate 32 0, 0, none, [], 0, 0⟩
def TOut.nil : TOut := ⟨0, none, [], 0⟩
section
variable {α : Type} {f : α → List Value} {sz : Nat}
theorem flat_len (l : List α) (h : ∀ x ∈ l, (f x).length = sz) : (l.flatMap f).length = l.length * sz := by
 induction l with
 | nil => simp
 | cons a l ih => rw [List.flatMap_cons, List.length_append, h a List.mem_cons_self, ih fun x hx => h x (List.mem_cons_of_mem _ hx), List.length_cons, Nat.add_mul]; omega
theorem flat_cut (l : List α) : ∀ (_ : ∀ x ∈ l, (f x).length = sz) (i : Nat) (x : α), l[i]? = some x → ((l.flatMap f).drop (i * sz)).take sz = f x := by
 induction l with
 | nil => intro _ i x hx; simp at hx
 | cons a l ih =>
   intro h i x hx
   have ha := h a List.mem_cons_self
   cases i with
   | zero =>
     simp at hx
     subst hx
     rw [Nat.zero_mul, List.drop_zero, List.flatMap_cons, List.take_left' ha]
   | succ i =>
     rw [List.flatMap_cons, Nat.add_mul, Nat.one_mul, Nat.add_comm, ← List.drop_drop, List.drop_left' ha]
     exact ih (fun y hy => h y (List.mem_cons_of_mem _ hy)) i x (by simpa using hx)
theorem flat_of (g : Nat → α) : ∀ (n : Nat) (xs : List Value), xs.length = n * sz → (∀ i, i < n → (xs.drop (i * sz)).take sz = f (g i)) → xs = ((List.range n).map g).flatMap f := by
 intro n
 induction n with
 | zero => intro xs h _; simpa using h
 | succ n ih =>
   intro xs h hel
   have hl : (xs.take (n * sz)).length = n * sz := by
     rw [List.length_take, h, Nat.add_mul]
     omega
   have e1 := ih (xs.take (n * sz)) hl fun i hi => by
     have hle : i * sz + sz ≤ n * sz := by rw [← Nat.succ_mul]; exact Nat.mul_le_mul_right _ hi
     rw [List.drop_take, List.take_take, Nat.min_eq_left (by omega)]
     exact hel i (by omega)
   have e2 : xs.drop (n * sz) = f (g n) := by
     rw [← hel n (by omega), List.take_of_length_le]
     rw [List.length_drop, h, Nat.add_mul]
     omega
   rw [List.range_succ, List.map_append, List.flatMap_append, ← e1]
   simp only [List.map_cons, List.map_nil, List.flatMap_cons, List.flatMap_nil, List.append_nil]
   rw [← e2, List.take_append_drop]
end
theorem tx_whole {cs vs : List Value} {m : Nat} (h : cs.length = m) : cs.take 0 ++ vs ++ cs.drop (0 + m) = vs := by
 rw [List.take_zero, List.nil_append, List.drop_eq_nil_of_le (by omega), List.append_nil]
theorem tx_sub {cs : List Value} {m : Nat} (h : cs.length = m) : (cs.drop 0).take m = cs := by rw [List.drop_zero, List.take_of_length_le (Nat.le_of_eq h)]
theorem take_all {α : Type} {p : α → Prop} {l : List α} {i : Nat} {x : α} (h : ∀ y ∈ l.take i, p y) (hx : l[i]? = some x) (hp : p x) : ∀ y ∈ l.take (i + 1), p y := by
 intro y hy
 rw [List.take_add_one, hx] at hy
 rcases List.mem_append.1 hy with h1 | h1
 · exact h y h1
 · simp at h1
   rw [h1]
   exact hp
theorem take_done {α : Type} {p : α → Prop} {l : List α} {i : Nat} (h : ∀ y ∈ l.take i, p y) (hi : l.length ≤ i) : ∀ y ∈ l, p y := by
 rw [List.take_of_length_le hi] at h
 exact h
theorem flat_snoc {α β : Type} {f : α → List β} {l : List α} {i : Nat} {x : α} (hx : l[i]? = some x) : (l.take (i + 1)).flatMap f = (l.take i).flatMap f ++ f x := by
 rw [List.take_add_one, hx, List.flatMap_append]
 simp
section
variable {x : TIn} {l : List TIn} {i : Nat}
theorem TIn.cells_length (h : x.fr.length = 32) : x.cells.length = 35 := by simp [TIn.cells, by8_length, h]
theorem TIn.cells_fr (h : x.fr.length = 32) : (x.cells.drop 0).take 32 = by8 x.fr := by rw [List.drop_zero]; exact List.take_left' (by rw [by8_length, h])
theorem TIn.cells_at (h : x.fr.length = 32) (k : Nat) : x.cells[32 + k]? = ([.int .u32 (x.ix : Int), .slice x.B x.kb.length x.kc, .int .u32 (x.sq : Int)] : List Value)[k]? := by
 rw [TIn.cells, List.getElem?_append_right (by rw [by8_length]; omega), by8_length, h, Nat.add_sub_cancel_left]
theorem TIn.cells_ix (h : x.fr.length = 32) : x.cells[32]? = some (.int .u32 (x.ix : Int)) := TIn.cells_at h 0
theorem TIn.cells_key (h : x.fr.length = 32) : x.cells[33]? = some (.slice x.B x.kb.length x.kc) := TIn.cells_at h 1
theorem TIn.cells_sq (h : x.fr.length = 32) : x.cells[34]? = some (.int .u32 (x.sq : Int)) := TIn.cells_at h 2
theorem TIn.cells_one : ∀ q ∈ x.cells, q.oneCell' = true := by
 intro q hq
 simp only [TIn.cells, List.mem_cons, List.mem_append, List.not_mem_nil, or_false] at hq
 rcases hq with h | rfl | rfl | rfl
 · exact by8_one _ q h
 · rfl
 · rfl
 · rfl
theorem insC_length (h : ∀ x ∈ l, x.fr.length = 32) : (insC l).length = l.length * 35 := flat_len l fun x hx => TIn.cells_length (h x hx)
theorem insC_cut (h : ∀ x ∈ l, x.fr.length = 32) (hx : l[i]? = some x) : ((insC l).drop (i * 35)).take 35 = x.cells := flat_cut l (fun x hx => TIn.cells_length (h x hx)) i x hx
theorem outsC_length (l : List TOut) : (outsC l).length = l.length * 2 := flat_len l fun _ _ => rfl
theorem outsC_cut {l : List TOut} {x : TOut} (hx : l[i]? = some x) : ((outsC l).drop (i * 2)).take 2 = x.cells := flat_cut (f := TOut.cells) (sz := 2) l (fun _ _ => rfl) i x hx
end
section
variable {w0 w w' : World} {S : List Nat} {L A' B' : List Ent}
def TIn.Ok (w : World) (S : List Nat) (x : TIn) : Prop := x.fr.length = 32 ∧ x.ix < 4294967296 ∧ x.sq < 4294967296 ∧ RdO w S x.B (by8 x.kb) ∧ x.kb.length ≤ x.kc ∧ x.kc ≤ maxLen
def TOut.Ok (w : World) (S : List Nat) (x : TOut) : Prop := x.pv < 18446744073709551616 ∧ RdO w S x.B (by8 x.lb) ∧ x.lb.length ≤ x.lc ∧ x.lc ≤ maxLen
theorem TIn.Ok.mid {x : TIn} (h : x.Ok w0 S) (H : Hp w0 S (A' ++ B') w) : x.Ok w (ids A') := ⟨h.1, h.2.1, h.2.2.1, h.2.2.2.1.mid H, h.2.2.2.2⟩
theorem TOut.Ok.mid {x : TOut} (h : x.Ok w0 S) (H : Hp w0 S (A' ++ B') w) : x.Ok w (ids A') := ⟨h.1, h.2.1.mid H, h.2.2⟩
theorem Blk.old {b : Nat} {cs : List Value} {t : TypeId} (h : Blk w0 b cs t) (H : Hp w0 [] L w) : Blk w b cs t := h.same (H.keep b h.lt (by simp))
theorem oks_mid {l : List TIn} (h : ∀ x ∈ l, x.Ok w0 []) (H : Hp w0 [] L w) : ∀ x ∈ l, x.Ok w [] := fun x hx => (h x hx).mid (A' := []) H
theorem oksO_mid {l : List TOut} (h : ∀ x ∈ l, x.Ok w0 []) (H : Hp w0 [] L w) : ∀ x ∈ l, x.Ok w [] := fun x hx => (h x hx).mid (A' := []) H
end
section
variable {H : Type} {enc : TypeId × Value → H} {P : Program} {w : World} {sp : Nat → Bool} {held : Bool}
theorem Lf.u32' {cs : List Value} {o : Nat} {t : TypeId} (ht : P.underlying t = some (.int .u32)) (h : Lf enc P w sp held cs o t) : ∃ n : Nat, cs[o]? = some (.int .u32 (n : Int)) ∧ n < 4294967296 := by
 obtain ⟨n, h1, h2⟩ := h.int ht
 simp [Lit.wf, IntKind.min, IntKind.max, IntKind.signed, IntKind.bits] at h2
 exact ⟨n.toNat, by rw [h1, Int.toNat_of_nonneg h2.1], by omega⟩
theorem in_cells {cs : List Value} (hl : cs.length = 35) (f : Nat → UInt8) {ix sq n c : Nat} {B : Option Addr} (h0 : ∀ i, i < 32 → cs[i]? = some (.int .u8 ((f i).toNat : Int))) (h1 : cs[32]? = some (.int .u32 (ix : Int))) (h2 : cs[33]? = some (.slice B n c)) (h3 : cs[34]? = some (.int .u32 (sq : Int))) :
   cs = by8 ((List.range 32).map f) ++ [.int .u32 (ix : Int), .slice B n c, .int .u32 (sq : Int)] := by
 refine List.ext_getElem? fun i => ?_
 by_cases hi : i < 32
 · rw [List.getElem?_append_left (by simp [by8_length]; omega), h0 i hi]
   simp [by8, hi]
 · by_cases h35 : i < 35
   · rw [List.getElem?_append_right (by simp [by8_length]; omega)]
     have hb : (by8 ((List.range 32).map f)).length = 32 := by simp [by8_length]
     rw [hb]
     rcases (show i = 32 ∨ i = 33 ∨ i = 34 by omega) with rfl | rfl | rfl
     · exact h1
     · exact h2
     · exact h3
   · rw [List.getElem?_eq_none (by omega), List.getElem?_eq_none (by simp [by8_length]; omega)]
theorem open_ins {t e e8 e1 e2 e3 e5 : TypeId} {fuel : Nat} {cs : List Value} {x : DataW H × List MemPlace} (ht : P.underlying t = some (.slice e)) (hc : P.cellsOf e = 35) (hok : lvOk P 2 e = true) (hls : lv P 2 e 0 = (List.range 32).map (fun i => (i, e8)) ++ [(32, e1), (33, e2), (34, e3)])
   (h8 : P.underlying e8 = some (.int .u8)) (h1 : P.underlying e1 = some (.int .u32)) (h2 : P.underlying e2 = some (.slice e5)) (h3 : P.underlying e3 = some (.int .u32)) (h5 : P.underlying e5 = some (.int .u8)) (h6 : P.cellsOf e5 = 1) (h : DataW.trod enc P w 0 sp held fuel t cs = some x) :
   ∃ (A : Option Addr) (l : List TIn) (c : Nat), cs = [.slice A l.length c] ∧ RdS w A (insC l) ∧ l.length ≤ c ∧ c ≤ maxLen ∧ ∀ x ∈ l, x.Ok w [] := by
 obtain ⟨A, n, c, xs, rfl, hr, hl, hnc, hcm, hel⟩ := open_structs 35 ht hc (by decide) h
 have hC : ∀ i, ∃ p : TIn, i < n → (xs.drop (i * 35)).take 35 = p.cells ∧ p.Ok w [] := by
   intro i
   by_cases hi : i < n
   · obtain ⟨hl3, m, y, hy⟩ := hel i hi
     have hlv := open_leaves 2 (by rw [hc]; exact hl3) hok hy hls
     have hb : ∀ k, ∃ b : UInt8, k < 32 → ((xs.drop (i * 35)).take 35)[k]? = some (.int .u8 (b.toNat : Int)) := by
       intro k
       by_cases hk : k < 32
       · obtain ⟨b, hb⟩ := (hlv (k, e8) (by simp [hk])).u8 h8
         exact ⟨b, fun _ => hb⟩
       · exact ⟨0, fun hh => absurd hh hk⟩
     obtain ⟨ix, g1, l1⟩ := (hlv (32, e1) (by simp)).u32' h1
     obtain ⟨B, kb, kc, g2, l2, l3, l4⟩ := (hlv (33, e2) (by simp)).bytes h2 h5 h6
     obtain ⟨sq, g3, l5⟩ := (hlv (34, e3) (by simp)).u32' h3
     exact ⟨⟨(List.range 32).map fun k => Classical.choose (hb k), ix, B, kb, kc, sq⟩, fun _ => ⟨in_cells hl3 _ (fun k hk => Classical.choose_spec (hb k) hk) g1 g2 g3, by simp, l1, l5, RdO.of l2, l3, l4⟩⟩
   · exact ⟨TIn.nil, fun hh => absurd hh hi⟩
 let g : Nat → TIn := fun i => Classical.choose (hC i)
 have hg : ∀ i, i < n → (xs.drop (i * 35)).take 35 = (g i).cells ∧ (g i).Ok w [] := fun i => Classical.choose_spec (hC i)
 refine ⟨A, (List.range n).map g, c, by simp, ?_, by simpa using hnc, hcm, ?_⟩
 · rw [insC, ← flat_of (f := TIn.cells) (sz := 35) g n xs hl fun i hi => (hg i hi).1]
   exact hr
 · intro x hx
   obtain ⟨i, hi, rfl⟩ := List.mem_map.1 hx
   exact (hg i (List.mem_range.1 hi)).2
theorem two_of {cs : List Value} {a b : Value} (hl : cs.length = 2) (h0 : cs[0]? = some a) (h1 : cs[1]? = some b) : cs = [a, b] := by
 match cs, hl with
 | [x, y], _ =>
   simp at h0 h1
   rw [h0, h1]
theorem open_outs {t e e1 e2 e5 : TypeId} {fuel : Nat} {cs : List Value} {x : DataW H × List MemPlace} (ht : P.underlying t = some (.slice e)) (hc : P.cellsOf e = 2) (hok : lvOk P 1 e = true) (hls : lv P 1 e 0 = [(0, e1), (1, e2)])
   (h1 : P.underlying e1 = some (.int .u64)) (h2 : P.underlying e2 = some (.slice e5)) (h5 : P.underlying e5 = some (.int .u8)) (h6 : P.cellsOf e5 = 1) (h : DataW.trod enc P w 0 sp held fuel t cs = some x) :
   ∃ (A : Option Addr) (l : List TOut) (c : Nat), cs = [.slice A l.length c] ∧ RdS w A (outsC l) ∧ l.length ≤ c ∧ c ≤ maxLen ∧ ∀ x ∈ l, x.Ok w [] := by
 obtain ⟨A, n, c, xs, rfl, hr, hl, hnc, hcm, hel⟩ := open_structs 2 ht hc (by decide) h
 have hC : ∀ i, ∃ p : TOut, i < n → (xs.drop (i * 2)).take 2 = p.cells ∧ p.Ok w [] := by
   intro i
   by_cases hi : i < n
   · obtain ⟨hl3, m, y, hy⟩ := hel i hi
     have hlv := open_leaves 1 (by rw [hc]; exact hl3) hok hy hls
     obtain ⟨pv, g1, l1⟩ := (hlv (0, e1) (by simp)).u64 h1
     obtain ⟨B, kb, kc, g2, l2, l3, l4⟩ := (hlv (1, e2) (by simp)).bytes h2 h5 h6
     exact ⟨⟨pv, B, kb, kc⟩, fun _ => ⟨two_of hl3 g1 g2, l1, RdO.of l2, l3, l4⟩⟩
   · exact ⟨TOut.nil, fun hh => absurd hh hi⟩
 let g : Nat → TOut := fun i => Classical.choose (hC i)
 have hg : ∀ i, i < n → (xs.drop (i * 2)).take 2 = (g i).cells ∧ (g i).Ok w [] := fun i => Classical.choose_spec (hC i)
 refine ⟨A, (List.range n).map g, c, by simp, ?_, by simpa using hnc, hcm, ?_⟩
 · rw [outsC, ← flat_of (f := TOut.cells) (sz := 2) g n xs hl fun i hi => (hg i hi).1]
   exact hr
 · intro x hx
   obtain ⟨i, hi, rfl⟩ := List.mem_map.1 hx
   exact (hg i (List.mem_range.1 hi)).2
end
section
variable {α : Type} {q : α → Bool} {l : List α} {i : Nat} {x : α}
def sel (q : α → Bool) (l : List α) (i : Nat) : Nat := ((l.take i).filter q).length
theorem take_step (hx : l[i]? = some x) : l.take (i + 1) = l.take i ++ [x] := by rw [List.take_add_one, hx]; rfl
theorem sel_yes (hx : l[i]? = some x) (hq : q x = true) : sel q l (i + 1) = sel q l i + 1 := by
 unfold sel
 rw [take_step hx, List.filter_append, List.length_append]
 simp [hq]
theorem sel_no (hx : l[i]? = some x) (hq : q x = false) : sel q l (i + 1) = sel q l i := by
 unfold sel
 rw [take_step hx, List.filter_append, List.length_append]
 simp [hq]
theorem sel_end (hi : l.length ≤ i) : sel q l i = (l.filter q).length := by
 unfold sel
 rw [List.take_of_length_le hi]
theorem sel_at (hx : l[i]? = some x) (hq : q x = true) : (l.filter q)[sel q l i]? = some x := by
 have e : l = l.take i ++ x :: l.drop (i + 1) := by
   obtain ⟨hi, he⟩ := List.getElem?_eq_some_iff.1 hx
   rw [← he, ← List.drop_eq_getElem_cons hi, List.take_append_drop]
 have e2 : l.filter q = (l.take i).filter q ++ x :: (l.drop (i + 1)).filter q := by
   conv => lhs; rw [e]
   rw [List.filter_append, List.filter_cons, if_pos hq]
 rw [e2, sel, List.getElem?_append_right (Nat.le_refl _), Nat.sub_self]
 rfl
theorem sel_lt (hx : l[i]? = some x) (hq : q x = true) : sel q l i < (l.filter q).length := (List.getElem?_eq_some_iff.1 (sel_at hx hq)).1
end
def payL (q : TOut → Bool) (l : List TOut) : List Nat := (l.filter q).map TOut.pv
theorem payL_length {q : TOut → Bool} {l : List TOut} : (payL q l).length = (l.filter q).length := List.length_map _
theorem payL_at {q : TOut → Bool} {l : List TOut} {i : Nat} {x : TOut} (hx : l[i]? = some x) (hq : q x = true) : (payL q l).getD (sel q l i) 0 = x.pv := by
 rw [payL, List.getD_eq_getElem?_getD, List.getElem?_map, sel_at hx hq]
 rfl
theorem payL_lt {q : TOut → Bool} {l : List TOut} {w : World} (h : ∀ x ∈ l, x.Ok w []) : ∀ n ∈ payL q l, n < 18446744073709551616 := by
 intro n hn
 obtain ⟨x, hx, rfl⟩ := List.mem_map.1 hn
 exact (h x (List.mem_filter.1 hx).1).1
theorem tx_ints (X : List UInt8) : by8 X = ints .u8 (X.map fun b => (b.toNat : Int)) := by simp [by8, ints]
theorem run_tx_eql {P : Program} {t n : Nat} {x y : Operand} (ht : arrInt P t = some n) (X Y : List UInt8) (hx : X.length = n) (hy : Y.length = n) (w : World) :
   (do eqGuard .eql t x y (.agg (by8 X).toArray) (.agg (by8 Y).toArray); binOp .eql t (.agg (by8 X).toArray) (.agg (by8 Y).toArray) : Sem Value).run P w = .ok (.bool (decide (X = Y))) w := by
 rw [tx_ints, tx_ints, run_arr_eql ht _ _ (by rw [List.length_map]; exact hx) (by rw [List.length_map]; exact hy)]
 have e : ((X.map fun b : UInt8 => (b.toNat : Int)) = Y.map fun b : UInt8 => (b.toNat : Int)) ↔ X = Y := List.map_inj_right (fun x y h => UInt8.toNat_inj.1 (by omega))
 rw [decide_eq_decide.2 e]
end Go.Proofs.Ytcedmbdahbdmaaa
namespace Go.Proofs.Ytcedmbdahbdmaaa
open Go.RowKit
section
variable {P : Program} {ops : Array Oper} {Q : Exit → Act → World → Prop} {S S' : World → Prop} {i n : Nat} {M M' : FM} {w w' : World} {done : List Nat}
def lastB (ops : Array Oper) (k : Nat) : Bool := match ops[k]? with
 | some o => (List.range ops.size).all fun i => i == k || o.after.any fun e => Region.binds .any e && e.on == i
 | none => false
theorem lastB_spec {k : Nat} {o : Oper} (hk : ops[k]? = some o) (h : lastB ops k = true) (i : Nat) (hi : i < ops.size) (hne : i ≠ k) : ∃ e ∈ o.after, Region.binds .any e = true ∧ e.on = i := by
 unfold lastB at h
 rw [hk] at h
 have h1 := List.all_eq_true.1 h i (List.mem_range.2 hi)
 simp only [Bool.or_eq_true, beq_iff_eq, Array.any_eq_true', List.any_eq_true, Bool.and_eq_true] at h1
 rcases h1 with h1 | ⟨e, he, hb, ho⟩
 · exact absurd h1 hne
 · exact ⟨e, he, hb, ho⟩
def wpL (P : Program) (ops : Array Oper) (Q : Exit → Act → World → Prop) (S : World → Prop) : Nat → Array Bool → Act → World → Prop
 | 0, listed, a, w => Region.ready .any ops listed = [] ∧ Q .normal a w
 | fuel + 1, listed, a, w => (Region.ready .any ops listed = [] → Q .normal a w) ∧
   ∀ i ∈ Region.ready .any ops listed, wpOp P ops Q i (fun a' w' => (lastB ops i = false → S w') ∧ wpL P ops Q S fuel (listed.setIfInBounds i true) a' w') a w
theorem wpL_any : ∀ (fuel : Nat) (listed : Array Bool) (a : Act) (w : World), wpL P ops Q S fuel listed a w → wpAny P .any ops Q fuel listed a w
 | 0, _, _, _, h => h
 | fuel + 1, _, _, _, h => ⟨h.1, fun i hi => wpOp_mono (fun a' w' h' => wpL_any fuel _ a' w' h'.2) (h.2 i hi)⟩
theorem wpL_weak (hs : ∀ w, S' w → S w) : ∀ (fuel : Nat) (listed : Array Bool) (a : Act) (w : World), wpL P ops Q S' fuel listed a w → wpL P ops Q S fuel listed a w
 | 0, _, _, _, h => h
 | fuel + 1, _, _, _, h => ⟨h.1, fun i hi => wpOp_mono (fun a' w' h' => ⟨fun hl => hs _ (h'.1 hl), wpL_weak hs fuel _ a' w' h'.2⟩) (h.2 i hi)⟩
theorem wpL_first {i : Nat} {oi : Oper} {v : Value} (hi : ops[i]? = some oi) (hsel : Region.noSelect ops = true) (hQ : ∀ c a w, Q (.panic c) (a.put oi.dst v) w → Q (.panic c) a w) :
   ∀ (fuel : Nat) (listed : Array Bool) (a : Act) (w : World),
     (∀ j oj, ops[j]? = some oj → j ≠ i → listed.getD j true = false → (∀ e ∈ oj.after, Region.binds .any e = true → e.on ≠ i) → oi.apart ops oj = true) →
     i ∈ Region.ready .any ops listed → YieldsIf P ops S oi v a → S w → wpL P ops Q S fuel (listed.setIfInBounds i true) (a.put oi.dst v) w → wpL P ops Q S (fuel + 1) listed a w := by
 intro fuel
 induction fuel with
 | zero =>
   intro listed a w _ hr hy hS H
   refine ⟨fun h => (by rw [h] at hr; cases hr), fun j hj => ?_⟩
   by_cases hji : j = i
   · subst hji
     exact hy.wpOp hi hS ⟨fun _ => hS, H⟩
   · have := ready_mono hj hji
     rw [H.1] at this
     cases this
 | succ fuel ih =>
   intro listed a w hfree hr hy hS H
   refine ⟨fun h => (by rw [h] at hr; cases hr), fun j hj => ?_⟩
   by_cases hji : j = i
   · subst hji
     exact hy.wpOp hi hS ⟨fun _ => hS, H⟩
   · obtain ⟨hjun, oj, hoj, hall⟩ := mem_ready.1 hj
     obtain ⟨hiun, _⟩ := mem_ready.1 hr
     have hun : ∀ d, listed.getD i d = false → i < listed.size := fun d h0 => by
       rcases Nat.lt_or_ge i listed.size with h' | h'
       · exact h'
       · cases d
         · simp only [Array.getD_eq_getD_getElem?, Array.getElem?_eq_none h', Option.getD_none] at hiun
           cases hiun
         · simp only [Array.getD_eq_getD_getElem?, Array.getElem?_eq_none h', Option.getD_none] at h0
           cases h0
     have hsz := hun true hiun
     have hif : listed.getD i false = false := by
       simp only [Array.getD_eq_getD_getElem?, Array.getElem?_eq_getElem hsz, Option.getD_some] at hiun ⊢
       exact hiun
     have hnot : ∀ e ∈ oj.after, Region.binds .any e = true → e.on ≠ i := fun e he hb heq => by
       have h1 := hall e he hb
       rw [heq, hif] at h1
       cases h1
     have hnl : lastB ops j = false := by
       cases hl : lastB ops j
       · rfl
       · obtain ⟨e, he, hb, ho⟩ := lastB_spec hoj hl i (Array.getElem?_eq_some_iff.1 hi).1 (fun h => hji h.symm)
         exact absurd ho (hnot e he hb)
     have h2 := wpOp_putIf hoj (hfree j oj hoj hji hjun hnot) (fun cs b => Region.noSelect_spec hsel i oi cs b hi) (fun cs b => Region.noSelect_spec hsel j oj cs b hoj) hQ hy (H.2 j (ready_mono hj hji))
     have hfree' : ∀ k ok, ops[k]? = some ok → k ≠ i → (listed.setIfInBounds j true).getD k true = false → (∀ e ∈ ok.after, Region.binds .any e = true → e.on ≠ i) → oi.apart ops ok = true := fun k ok hk hki hku hno => by
       refine hfree k ok hk hki ?_ hno
       by_cases hjk : j = k
       · subst hjk
         exact hjun
       · rwa [getD_set_ne true hjk] at hku
     refine wpOp_mono (fun a' w' h3 => ⟨h3.2.1, ih (listed.setIfInBounds j true) a' w' hfree' (ready_mono hr (fun h => hji h.symm)) h3.1 (h3.2.1 hnl) ?_⟩) h2
     rw [Array.setIfInBounds_comm _ _ hji]
     exact h3.2.2
theorem wpL_take {i : Nat} {oi : Oper} {v : Value} {fuel : Nat} {listed : Array Bool} {a : Act} {w : World} (hi : ops[i]? = some oi) (hs : Region.noSelect ops = true) (hf : Region.free .any ops listed i = true) (hr : (Region.ready .any ops listed).contains i = true)
   (hQ : ∀ c a w, Q (.panic c) (a.put oi.dst v) w → Q (.panic c) a w) (hy : YieldsIf P ops S oi v a) (hS : S w) (h : wpL P ops Q S fuel (listed.setIfInBounds i true) (a.put oi.dst v) w) : wpL P ops Q S (fuel + 1) listed a w :=
 wpL_first hi hs hQ fuel listed a w (Region.free_spec hi hf) (by simpa using hr) hy hS h
theorem wpL_all {rs : List Nat} {fuel : Nat} {listed : Array Bool} {a : Act} {w : World} (hr : Region.ready .any ops listed = rs) (hne : rs ≠ [])
   (h : ∀ i ∈ rs, wpOp P ops Q i (fun a' w' => S w' ∧ wpL P ops Q S fuel (listed.setIfInBounds i true) a' w') a w) : wpL P ops Q S (fuel + 1) listed a w :=
 ⟨fun h0 => absurd (hr ▸ h0) hne, fun i hi => wpOp_mono (fun _ _ h' => ⟨fun _ => h'.1, h'.2⟩) (h i (hr ▸ hi))⟩
theorem wpL_last {i fuel : Nat} {listed : Array Bool} {a : Act} {w : World} (hl : lastB ops i = true) (hr : Region.ready .any ops listed = [i])
   (h : wpOp P ops Q i (fun a' w' => wpL P ops Q S fuel (listed.setIfInBounds i true) a' w') a w) : wpL P ops Q S (fuel + 1) listed a w :=
 ⟨fun h0 => (by rw [h0] at hr; cases hr), fun k hk => by
   rw [hr] at hk
   simp only [List.mem_cons, List.not_mem_nil, or_false] at hk
   subst hk
   exact wpOp_mono (fun _ _ h' => ⟨fun hc => (by rw [hl] at hc; cases hc), h'⟩) h⟩
theorem wpL_done {listed : Array Bool} {a : Act} {w : World} (hr : Region.ready .any ops listed = []) (h : Q .normal a w) : ∀ fuel, wpL P ops Q S fuel listed a w
 | 0 => ⟨hr, h⟩
 | _ + 1 => ⟨fun _ => h, by rw [hr]; simp⟩
def lsD (N : Nat) (done : List Nat) : Array Bool := done.foldl (fun a i => a.setIfInBounds i true) (Array.replicate N false)
theorem lsD_snoc (N : Nat) (done : List Nat) (i : Nat) : lsD N (done ++ [i]) = (lsD N done).setIfInBounds i true := by simp [lsD]
def may (ops : Array Oper) (done : List Nat) (i : Nat) : Bool := (Region.ready .any ops (lsD ops.size done)).contains i && Region.free .any ops (lsD ops.size done) i
def GP (P : Program) (ops : Array Oper) (Q : Exit → Act → World → Prop) (S : World → Prop) (done : List Nat) (n : Nat) (M : FM) (w : World) : Prop :=
 ∀ F : Array Value, F.size = n → Fits F M → Region.noSelect ops = true → (∀ c (a : Act) d v w, Q (.panic c) (a.put d v) w → Q (.panic c) a w) →
   ∀ fuel, wpL P ops Q S (fuel + (ops.size - done.length)) (lsD ops.size done) ⟨F, []⟩ w
theorem GP.take {o : Oper} {v : Value} (hS : S w) (ho : ops[i]? = some o) (hm : may ops done i = true) (hl : done.length < ops.size) (hy : ∀ F : Array Value, F.size = n → Fits F M → YieldsIf P ops S o v ⟨F, []⟩) (hp : putM n M o.dst v = some M')
   (h : GP P ops Q S (done ++ [i]) n M' w) : GP P ops Q S done n M w := by
 intro F hF hM hsel hQ fuel
 simp only [may, Bool.and_eq_true] at hm
 have hp' := hM.put (d := o.dst) (v := v) (M' := M') (by rw [hF]; exact hp)
 have e : fuel + (ops.size - done.length) = (fuel + (ops.size - (done ++ [i]).length)) + 1 := by simp; omega
 rw [e]
 refine wpL_take ho hsel hm.2 hm.1 (fun c a w h => hQ c a _ _ w h) (hy F hF hM) hS ?_
 rw [hp'.2.2, ← lsD_snoc]
 exact h _ (by rw [hp'.2.1, hF]) hp'.1 hsel hQ fuel
def batchP (P : Program) (ops : Array Oper) (n : Nat) : List Nat → List Nat → FM → Option FM
 | _, [], M => some M
 | done, i :: r, M =>
   match ops[i]? with
   | none => none
   | some o => if may ops done i && Nat.blt done.length ops.size then
       match gdM ops M o with
       | none => none
       | some false => match putM n M o.dst undef with
         | some M1 => batchP P ops n (done ++ [i]) r M1
         | none => none
       | some true => if known M o then match opPev P M o with
           | some v => match putM n M o.dst v with
             | some M1 => batchP P ops n (done ++ [i]) r M1
             | none => none
           | none => none
         else none
     else none
theorem GP.batch_ (hS : S w) : ∀ {r done : List Nat} {M M' : FM}, batchP P ops n done r M = some M' → GP P ops Q S (done ++ r) n M' w → GP P ops Q S done n M w
 | [], done, M, M', hb, h => by
   simp [batchP] at hb
   subst hb
   simpa using h
 | i :: r, done, M, M', hb, h => by
   have h' : GP P ops Q S ((done ++ [i]) ++ r) n M' w := by rwa [List.append_assoc]
   unfold batchP at hb
   split at hb
   · cases hb
   · rename_i o ho
     split at hb
     · rename_i hc
       simp only [Bool.and_eq_true] at hc
       have hl : done.length < ops.size := by simpa [Nat.blt_eq] using hc.2
       split at hb
       · cases hb
       · rename_i hg
         split at hb
         · rename_i M1 hp
           exact GP.take hS ho hc.1 hl (fun F hF hM => .inr ⟨gdM_fits hM hg, rfl⟩) hp (GP.batch_ hS hb h')
         · cases hb
       · rename_i hg
         split at hb
         · rename_i hk
           split at hb
           · rename_i v hv
             split at hb
             · rename_i M1 hp
               refine GP.take hS ho hc.1 hl (fun F hF hM => .inl ⟨gdM_fits hM hg, fun w _ => ?_⟩) hp (GP.batch_ hS hb h')
               rw [known_exec hM hk]
               unfold opPev at hv
               split at hv
               · rename_i u hu
                 injection hv with hv
                 subst hv
                 exact pev_run hu w
               · cases hv
             · cases hb
           · cases hb
         · cases hb
     · cases hb
theorem GP.fit {ts : List Nat} (hp : pick ts M = some M') (h : GP P ops Q S done n M' w) : GP P ops Q S done n M w := fun F hF hM => h F hF (hM.pick hp)
theorem GP.run (r : List Nat) (ts : List Nat) (M' : FM) (done' : List Nat) (hb : (batchP P ops n done r M).bind (pick ts) = some M') (hj : done ++ r = done') (hS : S w) (h : GP P ops Q S done' n M' w) : GP P ops Q S done n M w := by
 subst hj
 cases hm : batchP P ops n done r M with
 | none => rw [hm] at hb; cases hb
 | some M1 =>
   rw [hm] at hb
   exact GP.batch_ hS hm (GP.fit hb h)
theorem GP.eq {M' : FM} (he : M = M') (h : GP P ops Q S done n M' w) : GP P ops Q S done n M w := he ▸ h
theorem GP.weak (S' : World → Prop) (hs : ∀ w, S' w → S w) (h : GP P ops Q S' done n M w) : GP P ops Q S done n M w := fun F hF hM hsel hQ fuel => wpL_weak hs _ _ _ _ (h F hF hM hsel hQ fuel)
def mayB (ops : Array Oper) (done : List Nat) (i : Nat) : Bool := may ops done i && Nat.blt done.length ops.size
theorem GP.semN {s : Sem Next} {v : Value} (i : Nat) (hr : ∀ w, S w → s.run P w = .ok (.value v) w) (ts : List Nat) (M' : FM) (hs : semAt ops M i = some s) (hp : (putM n M (dstAt ops i) v).bind (pick ts) = some M')
   (hm : mayB ops done i = true) (hS : S w) (h : GP P ops Q S (done ++ [i]) n M' w) : GP P ops Q S done n M w := by
 simp only [mayB, Bool.and_eq_true] at hm
 obtain ⟨o, ho, hg, hk, he, hd⟩ := semAt_spec hs
 obtain ⟨M1, h1, h2⟩ := putM_bind hp
 rw [hd] at h1
 exact GP.take hS ho hm.1 (by simpa [Nat.blt_eq] using hm.2) (fun F hF hM => .inl ⟨gdM_fits hM hg, fun w hw => by rw [known_exec hM hk, he]; exact hr w hw⟩) h1 (GP.fit h2 h)
theorem GP.sem {s : Sem Value} {v : Value} (i : Nat) (hr : ∀ w, S w → s.run P w = .ok v w) (ts : List Nat) (M' : FM) (hs : semAt ops M i = some (vN s)) (hp : (putM n M (dstAt ops i) v).bind (pick ts) = some M')
   (hm : mayB ops done i = true) (hS : S w) (h : GP P ops Q S (done ++ [i]) n M' w) : GP P ops Q S done n M w :=
 GP.semN i (fun w hw => by simp [vN, hr w hw]) ts M' hs hp hm hS h
def oneB (ops : Array Oper) (done : List Nat) (i : Nat) : Bool := decide (Region.ready .any ops (lsD ops.size done) = [i]) && Nat.blt done.length ops.size
theorem GP.all {o : Oper} (i : Nat) (hone : oneB ops done i = true) (ho : ops[i]? = some o) (hg : gdM ops M o = some true)
   (h : ∀ F : Array Value, F.size = n → Fits F M → Region.noSelect ops = true → (∀ c (a : Act) d v w, Q (.panic c) (a.put d v) w → Q (.panic c) a w) → ∀ fuel,
     Oper.wp P o ⟨F, []⟩ w (fun a' w' => S w' ∧ wpL P ops Q S (fuel + (ops.size - (done ++ [i]).length)) (lsD ops.size (done ++ [i])) a' w') Q) : GP P ops Q S done n M w := by
 intro F hF hM hsel hQ fuel
 simp only [oneB, Bool.and_eq_true, decide_eq_true_eq] at hone
 have hl : done.length < ops.size := by simpa [Nat.blt_eq] using hone.2
 have e : fuel + (ops.size - done.length) = (fuel + (ops.size - (done ++ [i]).length)) + 1 := by simp; omega
 rw [e]
 refine wpL_all hone.1 (by simp) fun k hk => ?_
 simp at hk
 subst hk
 unfold wpOp
 simp only [ho]
 rw [gdM_fits hM hg, if_pos rfl, ← lsD_snoc]
 exact .inl (h F hF hM hsel hQ fuel)
theorem GP.semU {s : Sem Unit} (i : Nat) (hr : s.run P w = .ok () w') (ts : List Nat) (M' : FM) (hs : semAt ops M i = some (uN s)) (hd : dstAt ops i = none) (hp : pick ts M = some M')
   (hone : oneB ops done i = true) (hS : S w') (h : GP P ops Q S (done ++ [i]) n M' w') : GP P ops Q S done n M w := by
 obtain ⟨o, ho, hg, hk, he, hd'⟩ := semAt_spec hs
 rw [hd] at hd'
 refine GP.all i hone ho hg fun F hF hM hsel hQ fuel => ?_
 unfold Oper.wp
 rw [known_exec hM hk, he]
 have : (uN s).run P w = .ok .skip w' := by simp [uN, hr]
 rw [this]
 show S w' ∧ _
 rw [← hd']
 exact ⟨hS, h F hF (hM.pick hp) hsel hQ fuel⟩
theorem GP.semUL {s : Sem Unit} (i : Nat) (hr : s.run P w = .ok () w') (ts : List Nat) (M' : FM) (hs : semAt ops M i = some (uN s)) (hd : dstAt ops i = none) (hp : pick ts M = some M')
   (hone : oneB ops done i = true) (hl : lastB ops i = true) (h : GP P ops Q S (done ++ [i]) n M' w') : GP P ops Q S done n M w := by
 obtain ⟨o, ho, hg, hk, he, hd'⟩ := semAt_spec hs
 rw [hd] at hd'
 intro F hF hM hsel hQ fuel
 simp only [oneB, Bool.and_eq_true, decide_eq_true_eq] at hone
 have hlt : done.length < ops.size := by simpa [Nat.blt_eq] using hone.2
 have e : fuel + (ops.size - done.length) = (fuel + (ops.size - (done ++ [i]).length)) + 1 := by simp; omega
 rw [e]
 refine wpL_last hl hone.1 ?_
 unfold wpOp
 simp only [ho]
 rw [gdM_fits hM hg, if_pos rfl, ← lsD_snoc]
 refine .inl ?_
 unfold Oper.wp
 rw [known_exec hM hk, he]
 have : (uN s).run P w = .ok .skip w' := by simp [uN, hr]
 rw [this]
 show wpL _ _ _ _ _ _ _ _
 rw [← hd']
 exact h F hF (hM.pick hp) hsel hQ fuel
theorem GP.made {s : Sem Value} {v : Value} (i : Nat) (hr : s.run P w = .ok v w') (ts : List Nat) (M' : FM) (hs : semAt ops M i = some (vN s)) (hp : (putM n M (dstAt ops i) v).bind (pick ts) = some M')
   (hone : oneB ops done i = true) (hS : S w') (h : GP P ops Q S (done ++ [i]) n M' w') : GP P ops Q S done n M w := by
 obtain ⟨o, ho, hg, hk, he, hd⟩ := semAt_spec hs
 obtain ⟨M1, h1, h2⟩ := putM_bind hp
 rw [hd] at h1
 refine GP.all i hone ho hg fun F hF hM hsel hQ fuel => ?_
 unfold Oper.wp
 rw [known_exec hM hk, he]
 have : (vN s).run P w = .ok (.value v) w' := by simp [vN, hr]
 rw [this]
 have hp' := hM.put (d := o.dst) (v := v) (M' := M1) (by rw [hF]; exact h1)
 show S w' ∧ _
 rw [hp'.2.2]
 exact ⟨hS, h _ (by rw [hp'.2.1, hF]) (hp'.1.pick h2) hsel hQ fuel⟩
theorem GP.call {f : FuncId} {args : Array Value} {R : Ending → World → Prop} (i : Nat) (hc : Calls P f args w R) (hs : (semAt ops M i).bind (pev P) = some (.enter f args)) (hone : oneB ops done i = true)
   (h : ∀ e w', R e w' → ∃ v, e = .returned v ∧ S w' ∧ ∃ ts M', (putM n M (dstAt ops i) v).bind (pick ts) = some M' ∧ GP P ops Q S (done ++ [i]) n M' w') : GP P ops Q S done n M w := by
 cases hsm : semAt ops M i with
 | none => rw [hsm] at hs; cases hs
 | some s =>
   rw [hsm] at hs
   obtain ⟨o, ho, hg, hk, he, hd⟩ := semAt_spec hsm
   refine GP.all i hone ho hg fun F hF hM hsel hQ fuel => ?_
   unfold Oper.wp
   rw [known_exec hM hk, he, pev_run hs w]
   show Calls P f args w _
   refine hc.mono fun e w' hR => ?_
   obtain ⟨v, rfl, hS, ts, M', hp, hG⟩ := h e w' hR
   obtain ⟨M1, h1, h2⟩ := putM_bind hp
   rw [hd] at h1
   have hp' := hM.put (d := o.dst) (v := v) (M' := M1) (by rw [hF]; exact h1)
   show S w' ∧ _
   rw [hp'.2.2]
   exact ⟨hS, hG _ (by rw [hp'.2.1, hF]) (hp'.1.pick h2) hsel hQ fuel⟩
theorem GP.fin (hi : Region.ready .any ops (lsD ops.size done) = []) (h : ∀ F : Array Value, F.size = n → Fits F M → Q .normal ⟨F, []⟩ w) : GP P ops Q S done n M w :=
 fun F hF hM _ _ fuel => wpL_done hi (h F hF hM) _
theorem GP.k {Q' : Exit → Act → World → Prop} {K : Act → World → Prop} {b : Code} (hi : Region.ready .any ops (lsD ops.size done) = []) (hK : ∀ a w, b.wp P Q' a w → K a w) (hq : ∀ a w, K a w → Q .normal a w)
   (h : G P b Q' n M w) : GP P ops Q S done n M w := GP.fin hi fun F hF hM => hq _ _ (hK _ _ (h F hF hM))
theorem G.heldP {id : Nat} (S : World → Prop) (hm : P.follows .mixedOrders = true) (hB : Region.noSelect ops = true) (hQ : ∀ c (a : Act) d v w, Q (.panic c) (a.put d v) w → Q (.panic c) a w)
   (h : GP P ops Q S [] n M { w with drawn := w.drawn + 1 }) : G P (.region id ops true) Q n M w := fun F hF hM =>
 wp_region_any hm (wpL_any _ _ _ _ (by simpa [lsD] using h F hF hM hB hQ 0))
def Hd (w0 : World) (L : List Ent) (w : World) : Prop := Below w0.heap.size w0 w ∧ Holds L w
theorem Hd.hp {w0 : World} {L : List Ent} (h : Hd w0 L w) {A : Option Addr} {xs : List Value} (hr : RdS w0 A xs) : RdS w A xs := hr.below h.1
theorem Hd.ld {w0 : World} {L : List Ent} (H : Hd w0 L w) (i : Nat) {b o : Nat} {cs : List Value} {t ty : TypeId} {v : Value} (hL : L[i]? = some (.blk b cs t)) (hs : scal P ty = true) (hv : cs[o]? = some v) :
   (Instr.loadAt ty (.pointer (some ⟨b, o, none⟩))).run P w = .ok v w := H.2.ld i hL hs hv
theorem Hd.ldA {w0 : World} {L : List Ent} (H : Hd w0 L w) (i : Nat) {b o : Nat} {cs sub : List Value} {t ty m : TypeId} (hL : L[i]? = some (.blk b cs t)) (hs : aggSz P ty = some m) (hsub : (cs.drop o).take m = sub) (hl : sub.length = m) :
   (Instr.loadAt ty (.pointer (some ⟨b, o, none⟩))).run P w = .ok (.agg sub.toArray) w := H.2.ldA i hL hs hsub hl
theorem row_rd {A : Option Addr} {n c e sz : Nat} {xs : List Value} (h : w.ownsRow 0 e sz (.slice A n c) n xs) : RdS w A xs := by
 have H : Hp w [] [.row A n c e sz xs] w → RdS w A xs := fun H => H.rdRowN 0 rfl
 rcases h.2 with ⟨h0, hn⟩ | ⟨g, cap, cur, hv, _, hh, hnc, _, hsz, ht⟩
 · left
   have := h.1
   rw [hn, Nat.zero_mul] at this
   exact List.eq_nil_of_length_eq_zero this
 · injection hv with hA
   subst hA
   refine .inr ⟨_, rfl, (Array.getElem?_eq_some_iff.1 hh).1, fun j v hv => ?_⟩
   rw [addr_add]
   have hj : j < n * sz := by
     have := (List.getElem?_eq_some_iff.1 hv).1
     have := h.1
     omega
   rw [← ht, List.getElem?_take_of_lt (by omega)] at hv
   simp only [World.cell?, hh]
   simpa using hv
theorem Hd.rdRow {w0 : World} {L : List Ent} (H : Hd w0 L w) (i : Nat) {A : Option Addr} {n c e sz : Nat} {xs : List Value} (hL : L[i]? = some (.row A n c e sz xs)) : RdS w A xs := row_rd (H.2 _ (List.mem_of_getElem? hL))
theorem Hd.rdBlk {w0 : World} {L : List Ent} (H : Hd w0 L w) (i : Nat) {b o : Nat} {cs : List Value} {t : TypeId} (n : Nat) {xs : List Value} (hL : L[i]? = some (.blk b cs t)) (hx : (cs.drop o).take n = xs) : RdS w (some ⟨b, o, none⟩) xs :=
 RdS.blk (H.2 _ (List.mem_of_getElem? hL)) o n hx
end
end Go.Proofs.Ytcedmbdahbdmaaa
namespace Go.Proofs.Ytcedmbdahbdmaaa
open Go.RowKit
section
variable {P : Program} {ops : Array Oper} {Q : Exit → Act → World → Prop} {S : World → Prop} {i n : Nat} {M M' : FM} {w w' : World} {done : List Nat}
def GO (P : Program) (ops : Array Oper) (Q : Exit → Act → World → Prop) (S : World → Prop) (done : List Nat) (i n : Nat) (M : FM) (w : World) : Prop :=
 ∀ F : Array Value, F.size = n → Fits F M → Region.noSelect ops = true → (∀ c (a : Act) d v w, Q (.panic c) (a.put d v) w → Q (.panic c) a w) → ∀ fuel,
   wpOp P ops Q i (fun a' w' => S w' ∧ wpL P ops Q S (fuel + (ops.size - (done ++ [i]).length)) (lsD ops.size (done ++ [i])) a' w') ⟨F, []⟩ w
def rdyB (ops : Array Oper) (done rs : List Nat) : Bool := decide (Region.ready .any ops (lsD ops.size done) = rs) && !rs.isEmpty && Nat.blt done.length ops.size
theorem GP.alls (rs : List Nat) (hr : rdyB ops done rs = true) (h : ∀ i ∈ rs, GO P ops Q S done i n M w) : GP P ops Q S done n M w := by
 intro F hF hM hsel hQ fuel
 simp only [rdyB, Bool.and_eq_true, decide_eq_true_eq] at hr
 have hl : done.length < ops.size := by simpa [Nat.blt_eq] using hr.2
 refine (show wpL P ops Q S (fuel + (ops.size - done.length)) (lsD ops.size done) ⟨F, []⟩ w from ?_)
 have e : ∀ i, fuel + (ops.size - done.length) = (fuel + (ops.size - (done ++ [i]).length)) + 1 := fun i => by simp; omega
 rw [e 0]
 refine wpL_all hr.1.1 (by intro h0; rw [h0] at hr; simp at hr) fun k hk => ?_
 have := h k hk F hF hM hsel hQ fuel
 rw [lsD_snoc] at this
 simpa using this
theorem GP.all2 (i j : Nat) (hr : rdyB ops done [i, j] = true) (h1 : GO P ops Q S done i n M w) (h2 : GO P ops Q S done j n M w) : GP P ops Q S done n M w :=
 GP.alls _ hr fun k hk => by
   simp only [List.mem_cons, List.not_mem_nil, or_false] at hk
   rcases hk with rfl | rfl <;> assumption
theorem GP.all1 (i : Nat) (hr : rdyB ops done [i] = true) (h1 : GO P ops Q S done i n M w) : GP P ops Q S done n M w :=
 GP.alls _ hr fun k hk => by
   simp only [List.mem_cons, List.not_mem_nil, or_false] at hk
   subst hk
   assumption
theorem GP.all3 (i j k : Nat) (hr : rdyB ops done [i, j, k] = true) (h1 : GO P ops Q S done i n M w) (h2 : GO P ops Q S done j n M w) (h3 : GO P ops Q S done k n M w) : GP P ops Q S done n M w :=
 GP.alls _ hr fun k hk => by
   simp only [List.mem_cons, List.not_mem_nil, or_false] at hk
   rcases hk with rfl | rfl | rfl <;> assumption
theorem GO.of {o : Oper} (ho : ops[i]? = some o) (hg : gdM ops M o = some true)
   (h : ∀ F : Array Value, F.size = n → Fits F M → Region.noSelect ops = true → (∀ c (a : Act) d v w, Q (.panic c) (a.put d v) w → Q (.panic c) a w) → ∀ fuel,
     Oper.wp P o ⟨F, []⟩ w (fun a' w' => S w' ∧ wpL P ops Q S (fuel + (ops.size - (done ++ [i]).length)) (lsD ops.size (done ++ [i])) a' w') Q) : GO P ops Q S done i n M w := by
 intro F hF hM hsel hQ fuel
 unfold wpOp
 simp only [ho]
 rw [gdM_fits hM hg, if_pos rfl]
 exact .inl (h F hF hM hsel hQ fuel)
theorem GO.made {s : Sem Value} {v : Value} (hr : s.run P w = .ok v w') (ts : List Nat) (M' : FM) (hs : semAt ops M i = some (vN s)) (hp : (putM n M (dstAt ops i) v).bind (pick ts) = some M')
   (hS : S w') (h : GP P ops Q S (done ++ [i]) n M' w') : GO P ops Q S done i n M w := by
 obtain ⟨o, ho, hg, hk, he, hd⟩ := semAt_spec hs
 obtain ⟨M1, h1, h2⟩ := putM_bind hp
 rw [hd] at h1
 refine GO.of ho hg fun F hF hM hsel hQ fuel => ?_
 unfold Oper.wp
 rw [known_exec hM hk, he]
 have : (vN s).run P w = .ok (.value v) w' := by simp [vN, hr]
 rw [this]
 have hp' := hM.put (d := o.dst) (v := v) (M' := M1) (by rw [hF]; exact h1)
 show S w' ∧ _
 rw [hp'.2.2]
 exact ⟨hS, h _ (by rw [hp'.2.1, hF]) (hp'.1.pick h2) hsel hQ fuel⟩
theorem GO.call {f : FuncId} {args : Array Value} {R : Ending → World → Prop} (hc : Calls P f args w R) (hs : (semAt ops M i).bind (pev P) = some (.enter f args))
   (h : ∀ e w', R e w' → ∃ v, e = .returned v ∧ S w' ∧ ∃ ts M', (putM n M (dstAt ops i) v).bind (pick ts) = some M' ∧ GP P ops Q S (done ++ [i]) n M' w') : GO P ops Q S done i n M w := by
 cases hsm : semAt ops M i with
 | none => rw [hsm] at hs; cases hs
 | some s =>
   rw [hsm] at hs
   obtain ⟨o, ho, hg, hk, he, hd⟩ := semAt_spec hsm
   refine GO.of ho hg fun F hF hM hsel hQ fuel => ?_
   unfold Oper.wp
   rw [known_exec hM hk, he, pev_run hs w]
   show Calls P f args w _
   refine hc.mono fun e w' hR => ?_
   obtain ⟨v, rfl, hS, ts, M', hp, hG⟩ := h e w' hR
   obtain ⟨M1, h1, h2⟩ := putM_bind hp
   rw [hd] at h1
   have hp' := hM.put (d := o.dst) (v := v) (M' := M1) (by rw [hF]; exact h1)
   show S w' ∧ _
   rw [hp'.2.2]
   exact ⟨hS, hG _ (by rw [hp'.2.1, hF]) (hp'.1.pick h2) hsel hQ fuel⟩
theorem GP.perm {d : List Nat} (d' : List Nat) (hl : lsD ops.size d = lsD ops.size d') (hn : d.length = d'.length) (h : GP P ops Q S d' n M w) : GP P ops Q S d n M w := by
 intro F hF hM hsel hQ fuel
 have := h F hF hM hsel hQ fuel
 rwa [← hl, ← hn] at this
theorem Hp.reorder {w0 : World} {S0 : List Nat} {L L' : List Ent} (H : Hp w0 S0 L w) (h : List.Perm L L') : Hp w0 S0 L' w :=
 ⟨H.os, H.tape, H.output, H.size, H.keep, fun e he => H.ents e (h.mem_iff.2 he), fun k hk => H.old k ((h.flatMap_right _).mem_iff.2 hk), ((h.flatMap_right _).nodup_iff).1 H.nd⟩
theorem GP.named (h : ∀ X : List Nat → FM → World → Prop, (∀ d M w, X d M w = GP P ops Q S d n M w) → X done M w) : GP P ops Q S done n M w := h _ fun _ _ _ => rfl
end
end Go.Proofs.Ytcedmbdahbdmaaa
namespace Go.Proofs.Ytcedmbdahbdmaaa
open Go.RowKit
section
variable {P : Program} {n : Nat} {M : FM} {w : World}
theorem G.seqJ {a b : Code} {Q : Exit → Act → World → Prop} {X : Type} (Mx : X → FM) (J : X → World → Prop)
   (h : (∀ x w', J x w' → G P b Q n (Mx x) w') → ∀ K : Act → World → Prop, (∀ a w, b.wp P Q a w → K a w) → G P a (Exit.then K Q) n M w)
   (hb : ∀ x w', J x w' → G P b Q n (Mx x) w') : G P (.seq a b) Q n M w := G.seqK fun K hK => h hb K hK
end
end Go.Proofs.Ytcedmbdahbdmaaa
namespace Go.Proofs.Ytcedmbdahbdmaaa
open Go.RowKit
abbrev vi (n : Nat) : Value := .int .i64 (n : Int)
abbrev vu (n : Nat) : Value := .int .u64 (n : Int)
abbrev vw (n : Nat) : Value := .int .u32 (n : Int)
abbrev li (x : Int) : Value := .int .i64 x
abbrev lu (x : Int) : Value := .int .u64 x
abbrev lw (x : Int) : Value := .int .u32 x
abbrev lb (x : Int) : Value := .int .u8 x
def kM (M : FM) : List Nat := M.map Prod.fst
section
variable {P : Program} {ops : Array Oper} {Q : Exit → Act → World → Prop} {i n : Nat} {M : FM} {w w' : World}
theorem GL.r (j k : Nat) (M' : FM) (h : GL P ops Q j n M' w) (hb : (batch P ops n k i M).bind (pick (kM M')) = some M' := by kernel_rfl) (hj : i + k = j := by exact rfl) : GL P ops Q i n M w := GL.run k (kM M') M' hb hj h
theorem GL.s (j : Nat) {s : Sem Value} {v : Value} (hr : s.run P w = .ok v w') (M' : FM) (h : GL P ops Q j n M' w') (hs : semAt ops M i = some (vN s) := by kernel_rfl) (hp : (putM n M (dstAt ops i) v).bind (pick (kM M')) = some M' := by kernel_rfl) (hj : i + 1 = j := by exact rfl) : GL P ops Q i n M w := GL.sem hr (kM M') M' hs hp hj h
theorem GL.u (j : Nat) {s : Sem Unit} (hr : s.run P w = .ok () w') (M' : FM) (h : GL P ops Q j n M' w') (hs : semAt ops M i = some (uN s) := by kernel_rfl) (hd : dstAt ops i = none := by exact rfl) (hp : pick (kM M') M = some M' := by kernel_rfl) (hj : i + 1 = j := by exact rfl) : GL P ops Q i n M w := GL.semU hr (kM M') M' hs hd hp hj h
theorem GL.q {Q' : Exit → Act → World → Prop} {K : Act → World → Prop} {b : Code} (hK : ∀ a w, b.wp P Q' a w → K a w) (h : G P b Q' n M w) (hi : Nat.ble ops.size i = true := by first | exact rfl | kernel_rfl) (hq : ∀ a w, K a w → Q .normal a w := by exact fun _ _ h => h) : GL P ops Q i n M w := GL.k hi hK hq h
theorem G.sr {Q : Exit → Act → World → Prop} {id : Nat} {b : Code} (h : ∀ K : Act → World → Prop, (∀ a w, b.wp P Q a w → K a w) → GL P ops (Exit.then K Q) 0 n M w) : G P (.seq (.region id ops false) b) Q n M w := G.seqK fun K hK => G.region (h K hK)
end
section
variable {P : Program} {ops : Array Oper} {w : World} {Qa : Act → Prop} {k i n : Nat} {M : FM}
theorem GS.r (j m : Nat) (M' : FM) (h : GS P ops w Qa k j n M') (hb : (batch P ops n m i M).bind (pick (kM M')) = some M' := by kernel_rfl) (hj : i + m = j := by exact rfl) (hk : Nat.ble j k = true := by exact rfl) : GS P ops w Qa k i n M := GS.run m (kM M') M' hb hj hk h
theorem GS.s (j : Nat) {s : Sem Value} {v : Value} (hr : s.run P w = .ok v w) (M' : FM) (h : GS P ops w Qa k j n M') (hs : semAt ops M i = some (vN s) := by kernel_rfl) (hp : (putM n M (dstAt ops i) v).bind (pick (kM M')) = some M' := by kernel_rfl) (hj : i + 1 = j := by exact rfl) (hk : Nat.ble j k = true := by exact rfl) : GS P ops w Qa k i n M := GS.sem hr (kM M') M' hs hp hj hk h
end
section
variable {P : Program} {ops : Array Oper} {C : World → Prop} {Qa : Act → Prop} {i n : Nat} {M : FM}
theorem GQ.r (j k : Nat) (M' : FM) (h : GQ P ops C Qa j n M') (hb : (batch P ops n k i M).bind (pick (kM M')) = some M' := by kernel_rfl) (hj : i + k = j := by exact rfl) : GQ P ops C Qa i n M := GQ.run k (kM M') M' hb hj h
theorem GQ.s (j : Nat) {s : Sem Value} {v : Value} (hr : ∀ w, C w → s.run P w = .ok v w) (M' : FM) (h : GQ P ops C Qa j n M') (hs : semAt ops M i = some (vN s) := by kernel_rfl) (hp : (putM n M (dstAt ops i) v).bind (pick (kM M')) = some M' := by kernel_rfl) (hj : i + 1 = j := by exact rfl) : GQ P ops C Qa i n M := GQ.sem hr (kM M') M' hs hp hj h
end
section
variable {P : Program} {ops : Array Oper} {Q : Exit → Act → World → Prop} {S : World → Prop} {n : Nat} {M : FM} {w : World} {done : List Nat}
theorem GP.r (r : List Nat) (M' : FM) (done' : List Nat) (hS : S w) (h : GP P ops Q S done' n M' w) (hb : (batchP P ops n done r M).bind (pick (kM M')) = some M' := by kernel_rfl) (hj : done ++ r = done' := by exact rfl) : GP P ops Q S done n M w := GP.run r (kM M') M' done' hb hj hS h
theorem GP.s (i : Nat) {s : Sem Value} {v : Value} (hr : ∀ w, S w → s.run P w = .ok v w) (M' : FM) (hS : S w) (h : GP P ops Q S (done ++ [i]) n M' w) (hs : semAt ops M i = some (vN s) := by kernel_rfl) (hp : (putM n M (dstAt ops i) v).bind (pick (kM M')) = some M' := by kernel_rfl) (hm : mayB ops done i = true := by kernel_rfl) : GP P ops Q S done n M w := GP.sem i hr (kM M') M' hs hp hm hS h
end
end Go.Proofs.Ytcedmbdahbdmaaa
namespace Go.Proofs.Ytcedmbdahbdmaaa
open Go.RowKit
def FR (r : Option Nat) : Fence := { Fence.wide with round := r }
def noDef (ops : Array Oper) : Bool := ops.toList.all fun o => !isDefer o.op
def RL (P : Program) (ops : Array Oper) (r : Option Nat) (ds : List Deferred) (Q : Exit → Act → World → Prop) (i n : Nat) (M : FM) (w : World) : Prop :=
 noDef ops = true → ∀ F : Array Value, F.size = n → Fits F M → wpListIn (FR r) 0 P ops Q (ops.toList.drop i) ⟨F, ds⟩ w
def RG (P : Program) (c : Code) (r : Option Nat) (ds : List Deferred) (Q : Exit → Act → World → Prop) (n : Nat) (M : FM) (w : World) : Prop :=
 ∀ F : Array Value, F.size = n → Fits F M → c.wpIn (FR r) 0 P Q ⟨F, ds⟩ w
theorem put_ds {F : Array Value} {ds : List Deferred} {d : Option Nat} {v : Value} : (⟨F, ds⟩ : Act).put d v = ⟨((⟨F, []⟩ : Act).put d v).tmps, ds⟩ := by cases d <;> rfl
theorem callsFR {P : Program} {f : FuncId} {args : Array Value} {w : World} {R : Ending → World → Prop} {r : Option Nat} {n : Nat} (h : Calls P f args w R) : CallsIn (FR r) n P f args w R := (callsIn_wide (n := n)).2 h
section
variable {P : Program} {ops : Array Oper} {r : Option Nat} {ds : List Deferred} {Q : Exit → Act → World → Prop} {i n : Nat} {M M' : FM} {w w' : World}
theorem noDef_at {o : Oper} (hd : noDef ops = true) (ho : ops[i]? = some o) : ∀ c, o.op ≠ .defer c := by
 intro c hc
 have h1 : o ∈ ops.toList := List.mem_of_getElem? (i := i) (by simpa using ho)
 have h2 := List.all_eq_true.1 hd o h1
 rw [hc] at h2
 simp [isDefer] at h2
theorem RL.step {o : Oper} {v : Value} (ho : ops[i]? = some o) (hg : gdM ops M o = some true)
   (hr : ∀ F : Array Value, F.size = n → Fits F M → (execOp (⟨F, []⟩ : Act).eval o).run P w = .ok (.value v) w')
   (hp : putM n M o.dst v = some M') (h : RL P ops r ds Q (i + 1) n M' w') : RL P ops r ds Q i n M w := by
 intro hnd F hF hM
 rw [drop_at ho]
 refine wpListIn_step fun K hK => ?_
 show if Region.wanted o (yielded ops F) then _ else _
 rw [gdM_fits hM hg, if_pos rfl]
 refine ⟨fun _ _ => trivial, ?_⟩
 rw [Oper.semAt_eq _ _ _ (noDef_at hnd ho)]
 have hr' : (execOp (⟨F, ds⟩ : Act).eval o).run P w = .ok (.value v) w' := hr F hF hM
 rw [hr']
 show K _ _
 have hp' := hM.put (d := o.dst) (v := v) (M' := M') (by rw [hF]; exact hp)
 rw [put_ds]
 exact hK _ _ (h hnd _ (by rw [hp'.2.1, hF]) hp'.1)
theorem RL.skip_ {o : Oper} (ho : ops[i]? = some o) (hg : gdM ops M o = some false) (hp : putM n M o.dst undef = some M') (h : RL P ops r ds Q (i + 1) n M' w) : RL P ops r ds Q i n M w := by
 intro hnd F hF hM
 rw [drop_at ho]
 refine wpListIn_step fun K hK => ?_
 show if Region.wanted o (yielded ops F) then _ else _
 rw [gdM_fits hM hg]
 simp only [Bool.false_eq_true, if_false]
 refine ⟨fun _ _ => trivial, ?_⟩
 have hp' := hM.put (d := o.dst) (v := undef) (M' := M') (by rw [hF]; exact hp)
 rw [put_ds]
 exact hK _ _ (h hnd _ (by rw [hp'.2.1, hF]) hp'.1)
theorem RL.batch_ : ∀ {k i : Nat} {M M' : FM}, batch P ops n k i M = some M' → RL P ops r ds Q (i + k) n M' w → RL P ops r ds Q i n M w
 | 0, i, M, M', hb, h => by
   simp [batch] at hb
   subst hb
   exact h
 | k + 1, i, M, M', hb, h => by
   have h' : RL P ops r ds Q (i + 1 + k) n M' w := by rwa [show i + 1 + k = i + (k + 1) from by omega]
   unfold batch at hb
   split at hb
   · cases hb
   · rename_i o ho
     split at hb
     · cases hb
     · rename_i hg
       split at hb
       · rename_i M1 hp
         exact RL.skip_ ho hg hp (RL.batch_ hb h')
       · cases hb
     · rename_i hg
       split at hb
       · rename_i hk
         split at hb
         · rename_i v hv
           split at hb
           · rename_i M1 hp
             refine RL.step ho hg (fun F hF hM => ?_) hp (RL.batch_ hb h')
             rw [known_exec hM hk]
             unfold opPev at hv
             split at hv
             · rename_i u hu
               injection hv with hv
               subst hv
               exact pev_run hu w
             · cases hv
           · cases hb
         · cases hb
       · cases hb
theorem RL.fit {ts : List Nat} (hp : pick ts M = some M') (h : RL P ops r ds Q i n M' w) : RL P ops r ds Q i n M w := fun hnd F hF hM => h hnd F hF (hM.pick hp)
theorem RL.run (k : Nat) (ts : List Nat) (M' : FM) {j : Nat} (hb : (batch P ops n k i M).bind (pick ts) = some M') (hj : i + k = j) (h : RL P ops r ds Q j n M' w) : RL P ops r ds Q i n M w := by
 subst hj
 cases hm : batch P ops n k i M with
 | none => rw [hm] at hb; cases hb
 | some M1 =>
   rw [hm] at hb
   exact RL.batch_ hm (RL.fit hb h)
theorem RL.eq {M' : FM} (he : M = M') (h : RL P ops r ds Q i n M' w) : RL P ops r ds Q i n M w := he ▸ h
theorem RG.eq {c : Code} {M' : FM} (he : M = M') (h : RG P c r ds Q n M' w) : RG P c r ds Q n M w := he ▸ h
theorem RG.fit {c : Code} (ts : List Nat) (hp : pick ts M = some M') (h : RG P c r ds Q n M' w) : RG P c r ds Q n M w := fun F hF hM => h F hF (hM.pick hp)
theorem RL.done (hi : Nat.ble ops.size i = true) (h : ∀ F : Array Value, F.size = n → Fits F M → Q .normal ⟨F, ds⟩ w) : RL P ops r ds Q i n M w := by
 intro _ F hF hM
 rw [List.drop_eq_nil_of_le (by simpa using Nat.le_of_ble_eq_true hi)]
 exact wpListIn_nil (h F hF hM)
theorem RL.semN {s : Sem Next} {v : Value} (hr : s.run P w = .ok (.value v) w') (ts : List Nat) (M' : FM) (hs : semAt ops M i = some s) (hp : (putM n M (dstAt ops i) v).bind (pick ts) = some M')
   {j : Nat} (hj : i + 1 = j) (h : RL P ops r ds Q j n M' w') : RL P ops r ds Q i n M w := by
 subst hj
 obtain ⟨o, ho, hg, hk, he, hd⟩ := semAt_spec hs
 obtain ⟨M1, h1, h2⟩ := putM_bind hp
 rw [hd] at h1
 exact RL.step ho hg (fun F hF hM => by rw [known_exec hM hk, he]; exact hr) h1 (RL.fit h2 h)
theorem RL.sem {s : Sem Value} {v : Value} (hr : s.run P w = .ok v w') (ts : List Nat) (M' : FM) (hs : semAt ops M i = some (vN s)) (hp : (putM n M (dstAt ops i) v).bind (pick ts) = some M')
   {j : Nat} (hj : i + 1 = j) (h : RL P ops r ds Q j n M' w') : RL P ops r ds Q i n M w :=
 RL.semN (by simp [vN, hr]) ts M' hs hp hj h
theorem RL.semU {s : Sem Unit} (hr : s.run P w = .ok () w') (ts : List Nat) (M' : FM) (hs : semAt ops M i = some (uN s)) (hd : dstAt ops i = none) (hp : pick ts M = some M')
   {j : Nat} (hj : i + 1 = j) (h : RL P ops r ds Q j n M' w') : RL P ops r ds Q i n M w := by
 subst hj
 obtain ⟨o, ho, hg, hk, he, hd'⟩ := semAt_spec hs
 rw [hd] at hd'
 intro hnd F hF hM
 rw [drop_at ho]
 refine wpListIn_step fun K hK => ?_
 show if Region.wanted o (yielded ops F) then _ else _
 rw [gdM_fits hM hg, if_pos rfl]
 refine ⟨fun _ _ => trivial, ?_⟩
 rw [Oper.semAt_eq _ _ _ (noDef_at hnd ho)]
 have hr' : (execOp (⟨F, ds⟩ : Act).eval o).run P w = .ok .skip w' := by
   show (execOp (⟨F, []⟩ : Act).eval o).run P w = _
   rw [known_exec hM hk, he]
   simp [uN, hr]
 rw [hr']
 show K _ _
 rw [← hd']
 exact hK _ _ (h hnd F hF (hM.pick hp))
theorem RL.call {f : FuncId} {args : Array Value} {R : Ending → World → Prop} (hc : Calls P f args w R) (hs : (semAt ops M i).bind (pev P) = some (.enter f args)) {j : Nat} (hj : i + 1 = j)
   (h : ∀ e w', R e w' → ∃ v, e = .returned v ∧ ∃ ts M', (putM n M (dstAt ops i) v).bind (pick ts) = some M' ∧ RL P ops r ds Q j n M' w') : RL P ops r ds Q i n M w := by
 subst hj
 cases hsm : semAt ops M i with
 | none => rw [hsm] at hs; cases hs
 | some s =>
   rw [hsm] at hs
   obtain ⟨o, ho, hg, hk, he, hd⟩ := semAt_spec hsm
   intro hnd F hF hM
   rw [drop_at ho]
   refine wpListIn_step fun K hK => ?_
   show if Region.wanted o (yielded ops F) then _ else _
   rw [gdM_fits hM hg, if_pos rfl]
   refine ⟨fun _ _ => trivial, ?_⟩
   rw [Oper.semAt_eq _ _ _ (noDef_at hnd ho)]
   have hr' : (execOp (⟨F, ds⟩ : Act).eval o).run P w = .ok (.enter f args) w := by
     show (execOp (⟨F, []⟩ : Act).eval o).run P w = _
     rw [known_exec hM hk, he]
     exact pev_run hs w
   rw [hr']
   refine ⟨fun h => (by cases h), ?_⟩
   refine (callsFR hc).mono fun e w' hR => ?_
   obtain ⟨v, rfl, ts, M', hp, hG⟩ := h e w' hR
   obtain ⟨M1, h1, h2⟩ := putM_bind hp
   rw [hd] at h1
   have hp' := hM.put (d := o.dst) (v := v) (M' := M1) (by rw [hF]; exact h1)
   show K _ _
   rw [put_ds]
   exact hK _ _ (hG hnd _ (by rw [hp'.2.1, hF]) (hp'.1.pick h2))
theorem RL.yield {l : Nat} {args : Array Value} {R : Ending → World → Prop} (hy : YieldAt (FR none) 0 P l args w R) (hs : semAt ops M i = some (Instr.yield l args)) {j : Nat} (hj : i + 1 = j)
   (h : ∀ e w', R e w' → ∃ v, e = .returned v ∧ ∃ ts M', (putM n M (dstAt ops i) v).bind (pick ts) = some M' ∧ RL P ops r ds Q j n M' w') : RL P ops r ds Q i n M w := by
 subst hj
 obtain ⟨fn, tmps, assign, body, hrun, hR0⟩ := hy
 obtain ⟨o, ho, hg, hk, he, hd⟩ := semAt_spec hs
 intro hnd F hF hM
 rw [drop_at ho]
 refine wpListIn_step fun K hK => ?_
 show if Region.wanted o (yielded ops F) then _ else _
 rw [gdM_fits hM hg, if_pos rfl]
 refine ⟨fun _ _ => trivial, ?_⟩
 rw [Oper.semAt_eq _ _ _ (noDef_at hnd ho)]
 have hr' : (execOp (⟨F, ds⟩ : Act).eval o).run P w = .ok (.round l fn tmps assign body) w := by
   show (execOp (⟨F, []⟩ : Act).eval o).run P w = _
   rw [known_exec hM hk, he]
   exact hrun
 rw [hr']
 refine ⟨fun h => (by cases h), ?_⟩
 have hR1 : RoundIn (FR r) 0 P l fn tmps assign body w R := hR0
 refine hR1.mono fun e w' hR => ?_
 obtain ⟨v, rfl, ts, M', hp, hG⟩ := h e w' hR
 obtain ⟨M1, h1, h2⟩ := putM_bind hp
 rw [hd] at h1
 have hp' := hM.put (d := o.dst) (v := v) (M' := M1) (by rw [hF]; exact h1)
 show K _ _
 rw [put_ds]
 exact hK _ _ (hG hnd _ (by rw [hp'.2.1, hF]) (hp'.1.pick h2))
theorem RG.region {id : Nat} (hnd : noDef ops = true) (h : RL P ops r ds Q 0 n M w) : RG P (.region id ops false) r ds Q n M w := fun F hF hM =>
 wpIn_region_list (by simpa using h hnd F hF hM)
theorem RG.block {id : Nat} {c : Code} (h : RG P c r ds (Exit.inBlock id Q) n M w) : RG P (.block id c) r ds Q n M w := fun F hF hM => wpIn_block (h F hF hM)
theorem RG.cond {c : Operand} {x y : Code} {b : Bool} (hc : evM M c = some (.bool b)) (hx : b = true → RG P x r ds Q n M w) (hy : b = false → RG P y r ds Q n M w) : RG P (.cond c x y) r ds Q n M w := by
 intro F hF hM
 refine wpIn_cond (t := b) (evM_fits hM hc) ?_
 cases b
 · exact hy rfl F hF hM
 · exact hx rfl F hF hM
theorem RG.yes {c : Operand} {x y : Code} (hc : evM M c = some (.bool true)) (hx : RG P x r ds Q n M w) : RG P (.cond c x y) r ds Q n M w := RG.cond hc (fun _ => hx) (fun h => by cases h)
theorem RG.no {c : Operand} {x y : Code} (hc : evM M c = some (.bool false)) (hy : RG P y r ds Q n M w) : RG P (.cond c x y) r ds Q n M w := RG.cond hc (fun h => by cases h) (fun _ => hy)
theorem RG.ret (h : ∀ F : Array Value, F.size = n → Fits F M → Q .ret ⟨F, ds⟩ w) : RG P .ret r ds Q n M w := fun F hF hM => wpIn_ret (h F hF hM)
theorem RL.k {Q' : Exit → Act → World → Prop} {K : Act → World → Prop} {b : Code} (hi : Nat.ble ops.size i = true) (hK : ∀ a w, b.wpIn (FR r) 0 P Q' a w → K a w) (hq : ∀ a w, K a w → Q .normal a w)
   (h : RG P b r ds Q' n M w) : RL P ops r ds Q i n M w := RL.done hi fun F hF hM => hq _ _ (hK _ _ (h F hF hM))
theorem RG.kk {Q' : Exit → Act → World → Prop} {K : Act → World → Prop} {b : Code} (hK : ∀ a w, b.wpIn (FR r) 0 P Q' a w → K a w) (hq : ∀ a w, K a w → Q .normal a w)
   (h : RG P b r ds Q' n M w) : ∀ F : Array Value, F.size = n → Fits F M → Q .normal ⟨F, ds⟩ w := fun F hF hM => hq _ _ (hK _ _ (h F hF hM))
theorem RG.skipK {Q' : Exit → Act → World → Prop} {K : Act → World → Prop} {b : Code} (hK : ∀ a w, b.wpIn (FR r) 0 P Q' a w → K a w) (hq : ∀ a w, K a w → Q .normal a w)
   (h : RG P b r ds Q' n M w) : RG P .skip r ds Q n M w := fun F hF hM => wpIn_skip (hq _ _ (hK _ _ (h F hF hM)))
theorem RG.exitK {Q' : Exit → Act → World → Prop} {K : Act → World → Prop} {b : Code} {id : Nat} (hK : ∀ a w, b.wpIn (FR r) 0 P Q' a w → K a w) (hq : ∀ a w, K a w → Q (.exit id) a w)
   (h : RG P b r ds Q' n M w) : RG P (.exit id) r ds Q n M w := fun F hF hM => wpIn_exit (hq _ _ (hK _ _ (h F hF hM)))
theorem RG.seqK {a b : Code} (h : ∀ K : Act → World → Prop, (∀ a w, b.wpIn (FR r) 0 P Q a w → K a w) → RG P a r ds (Exit.then K Q) n M w) : RG P (.seq a b) r ds Q n M w := fun F hF hM =>
 wpIn_seq_k fun K hK => h K hK F hF hM
def AgainR (n : Nat) (ds : List Deferred) {X : Type} (Mx : X → FM) (J : X → World → Prop) (μ : X → Nat) (x : X) : Act → World → Prop :=
 fun a w => ∃ x', μ x' < μ x ∧ J x' w ∧ ∃ F : Array Value, a = ⟨F, ds⟩ ∧ F.size = n ∧ Fits F (Mx x')
theorem RG.loop {X : Type} {c : Code} (Mx : X → FM) (J : X → World → Prop) (μ : X → Nat) (x0 : X) (ts : List Nat) (hM : pick ts M = some (Mx x0)) (hJ : J x0 w)
   (hstep : ∀ x w, J x w → RG P c r ds (Exit.then (AgainR n ds Mx J μ x) Q) n (Mx x) w) : RG P (.loop c) r ds Q n M w := by
 have key : ∀ m x w, μ x ≤ m → J x w → ∀ F : Array Value, F.size = n → Fits F (Mx x) → Code.roundsIn (FR r) 0 P c Q (m + 1) ⟨F, ds⟩ w := by
   intro m
   induction m with
   | zero =>
     intro x w hm hx F hF hFit
     rw [roundsIn_succ]
     refine wpIn_mono (hstep x w hx F hF hFit) ?_
     intro e a' w' hq
     cases e with
     | normal =>
       obtain ⟨x', hlt, _⟩ := hq
       omega
     | _ => exact hq
   | succ m ih =>
     intro x w hm hx F hF hFit
     rw [roundsIn_succ]
     refine wpIn_mono (hstep x w hx F hF hFit) ?_
     intro e a' w' hq
     cases e with
     | normal =>
       obtain ⟨x', hlt, hJ', F', rfl, hF', hfit'⟩ := hq
       exact ih x' w' (by omega) hJ' F' hF' hfit'
     | _ => exact hq
 intro F hF hFit
 exact wpIn_loop_rounds _ (key (μ x0) x0 w (Nat.le_refl _) hJ F hF (hFit.pick hM))
theorem RL.again {X : Type} {Mx : X → FM} {J : X → World → Prop} {μ : X → Nat} {x : X} {Q : Exit → Act → World → Prop} (x' : X) (ts : List Nat) (hi : Nat.ble ops.size i = true) (hp : pick ts M = some (Mx x')) (hμ : μ x' < μ x) (hJ : J x' w) :
   RL P ops r ds (Exit.then (AgainR n ds Mx J μ x) Q) i n M w :=
 RL.done hi fun F hF hM => ⟨x', hμ, hJ, F, rfl, hF, hM.pick hp⟩
theorem RL.round {c : Code} {Q : Exit → Act → World → Prop} {k : Nat} (hi : Nat.ble ops.size i = true) (h : RG P c r ds (Exit.then (Code.roundsIn (FR r) 0 P c Q k) Q) n M w) : RL P ops r ds (Exit.then (Code.roundsIn (FR r) 0 P c Q (k + 1)) Q) i n M w :=
 RL.done hi fun F hF hM => h F hF hM
def MK (D : Nat) : Deferred := { target := .collected D, args := #[] }
def DF : Obj := .deferred (some [])
theorem calls_R {f : FuncId} {fn : Func} {c : Code} {args : List Value} {R : Ending → World → Prop} (hf : P.funcs[f]? = some fn) (hb : fn.body = some c) (hn : fn.ntmps = n) (hl : Nat.ble args.length n = true)
   (h : ∀ Q : Exit → Act → World → Prop, (∀ a w, bodyPostM (FR none) 0 P fn R .ret a w → Q .ret a w) → (∀ a w, bodyPostM (FR none) 0 P fn R .ret a w → Q .normal a w) → RG P c none [] Q n (argsM 0 args) w) : Calls P f args.toArray w R := by
 refine (callsIn_wide (n := 0)).1 ?_
 refine callsIn_of_wp_marks (F := Fence.wide) hf hb trivial ?_ rfl
 refine h (bodyPostM (FR none) 0 P fn R) (fun _ _ h => h) (fun _ _ h => h) _ ?_ ?_
 · have := Nat.le_of_ble_eq_true hl
   simp [hn]; omega
 · exact fits_args args _ args 0 (fun j => by left; simp)
theorem postM_0 {fn : Func} {R : Ending → World → Prop} (hr : fn.results = #[]) (h : R (.returned (.tuple #[])) w) :
   ∀ F : Array Value, F.size = n → Fits F M → bodyPostM (FR none) 0 P fn R .ret ⟨F, []⟩ w := fun F _ _ =>
 ⟨.tuple #[], by simp [results, hr], h⟩
theorem postK_1 {fn : Func} {R : Ending → World → Prop} {q : ResultVar} {v : Value} {D : Nat} (hD : w.heap[D]? = some DF) (hr : fn.results = #[q]) (hv : RV P M (w.putObj D (.deferred none)) q v) (h : R (.returned v) (w.putObj D (.deferred none))) :
   ∀ F : Array Value, F.size = n → Fits F M → bodyPostM (FR none) 0 P fn R .ret ⟨F, [MK D]⟩ w := fun F _ hM =>
 ⟨by simp, .inl ⟨D, _, rfl, run_takeDeferred hD, v, by rw [results_resOf, hr]; simp only [Sem.run_bind, run_mapM1 (hv.run hM), Result.andThen_ok]; rfl, h⟩⟩
theorem postK_2 {fn : Func} {R : Ending → World → Prop} {q s : ResultVar} {v x : Value} {D : Nat} (hD : w.heap[D]? = some DF) (hr : fn.results = #[q, s]) (hv : RV P M (w.putObj D (.deferred none)) q v) (hx : RV P M (w.putObj D (.deferred none)) s x) (h : R (.returned (.tuple #[v, x])) (w.putObj D (.deferred none))) :
   ∀ F : Array Value, F.size = n → Fits F M → bodyPostM (FR none) 0 P fn R .ret ⟨F, [MK D]⟩ w := fun F _ hM =>
 ⟨by simp, .inl ⟨D, _, rfl, run_takeDeferred hD, .tuple #[v, x], by rw [results_resOf, hr]; simp only [Sem.run_bind, run_mapM2 (hv.run hM) (hx.run hM), Result.andThen_ok]; rfl, h⟩⟩
end
section
variable {P : Program} {w0 w : World} {S : List Nat} {L : List Ent}
theorem Hp.objAt (H : Hp w0 S L w) (i : Nat) {k : Nat} {o : Obj} (hL : L[i]? = some (.obj k o)) : w.heap[k]? = some o := H.ents _ (List.mem_of_getElem? hL)
theorem Hp.putObj (H : Hp w0 S L w) (i : Nat) {k : Nat} {o : Obj} (o' : Obj) (hL : L[i]? = some (.obj k o)) : Hp w0 S (L.set i (.obj k o')) (w.putObj k o') := by
 have h1 := H.objAt i hL
 have hlt := (Array.getElem?_eq_some_iff.1 h1).1
 exact H.turn i hL rfl (World.putObj_heap_same hlt) rfl rfl rfl (by simp) (fun j _ hj => World.putObj_heap_other (by simpa [Ent.ids] using hj))
theorem Hp.newObj (H : Hp w0 S L w) (o : Obj) : Hp w0 S (L ++ [.obj w.heap.size o]) (w.alloc o) := by
 refine H.callNew (L' := [.obj w.heap.size o]) ⟨rfl, rfl, rfl, by simp, fun k hk _ => heap_alloc_old w _ hk, ?_, ?_, by simp [ids, Ent.ids]⟩
 · intro e he
   simp at he
   subst he
   exact World.alloc_heap_new w o
 · intro k hk
   simp [ids, Ent.ids] at hk
   omega
theorem set_last2 {α : Type} (A : List α) (x y z : α) : (A ++ [x, y]).set (A.length + 1) z = A ++ [x, z] := by
 rw [List.set_append_right _ _ (by omega)]
 simp
theorem Hp.turnLast {A : List Ent} {e : Ent} {k : Nat} {o : Obj} (H : Hp w0 S (A ++ [e, .obj k o]) w) (o' : Obj) : Hp w0 S (A ++ [e, .obj k o']) (w.putObj k o') := by
 have h := H.putObj (A.length + 1) (k := k) (o := o) o' (by simp)
 rwa [set_last2] at h
theorem Hp.last {A : List Ent} {e : Ent} {k : Nat} {o : Obj} (H : Hp w0 S (A ++ [e, .obj k o]) w) : w.heap[k]? = some o := H.objAt (A.length + 1) (by simp)
theorem Hp.dropLast {A : List Ent} {e : Ent} {k : Nat} {o : Obj} (H : Hp w0 S (A ++ [e, .obj k o]) w) : Hp w0 S (A ++ [e]) w := by
 refine H.sub ?_
 refine List.Sublist.append_left ?_ A
 exact List.Sublist.cons_cons _ (List.nil_sublist _)
end
def Iter (P : Program) (gf : Nat) (lb : Array Value) (N : Nat) (enc : Nat → Array Value) (Rd : World → Prop) : Prop :=
 ∀ (l : Nat) (J : Nat → World → Prop) (Jx : World → Prop), (∀ k W, J k W → Rd W) → (∀ k W W', J k W → Below W.heap.size W W' → J k W') →
   (∀ k W, k < N → J k W → YieldAt (FR none) 0 P l (enc k) W fun e W' => (e = .returned (.bool true) ∧ J (k + 1) W') ∨ (e = .returned (.bool false) ∧ Jx W')) →
   ∀ W, J 0 W → Calls P gf (#[.func (.yield l) #[] #[]] ++ lb) W fun e W' => (∃ v, e = .returned v) ∧ (J N W' ∨ Jx W')
theorem yield_cases {A B : World → Prop} {e : Ending} {w : World} (h : (e = .returned (.bool true) ∧ A w) ∨ (e = .returned (.bool false) ∧ B w)) : ∃ b : Bool, e = .returned (.bool b) ∧ (b = true → A w) ∧ (b = false → B w) := by
 rcases h with ⟨rfl, h⟩ | ⟨rfl, h⟩
 · exact ⟨true, rfl, fun _ => h, fun h => by cases h⟩
 · exact ⟨false, rfl, fun h => (by cases h), fun _ => h⟩
theorem getD_some {ls : List Nat} {k : Nat} (h : k < ls.length) : ls[k]? = some (ls.getD k 0) := by rw [List.getD_eq_getElem?_getD, List.getElem?_eq_getElem h]; rfl
def RoundQ (w0 : World) (S : List Nat) {Xt : Type} (inv : Nat → Xt → Prop) (Lx : Nat → Xt → List Ent) (invr : Xt → Prop) (Lr : Xt → List Ent) (k : Nat) (E : List Ent) : Exit → Act → World → Prop
 | .normal, _, W => ∃ x, inv (k + 1) x ∧ Hp w0 S (Lx (k + 1) x ++ E) W
 | .ret, _, W => ∃ x, invr x ∧ Hp w0 S (Lr x ++ E) W
 | _, _, _ => False
section
variable {P : Program} {n : Nat} {M : FM} {w w0 : World} {S : List Nat} {L : List Ent} {Q : Exit → Act → World → Prop}
def putL (n : Nat) : List (Nat × Value) → FM → Option FM
 | [], M => some M
 | (p, v) :: l, M => match putM n M (some p) v with
   | some M' => putL n l M'
   | none => none
theorem putL_fits : ∀ (l : List (Nat × Value)) {M M' : FM} {F : Array Value}, F.size = n → Fits F M → putL n l M = some M' →
   (l.foldl (fun t (q : Nat × Value) => t.setIfInBounds q.1 q.2) F).size = n ∧ Fits (l.foldl (fun t (q : Nat × Value) => t.setIfInBounds q.1 q.2) F) M'
 | [], M, M', F, hF, hM, h => by
   simp only [putL, Option.some.injEq] at h
   subst h
   exact ⟨hF, hM⟩
 | (p, v) :: l, M, M', F, hF, hM, h => by
   unfold putL at h
   split at h
   · rename_i M1 h1
     have hp := hM.put (d := some p) (v := v) (M' := M1) (by rw [hF]; exact h1)
     exact putL_fits l (by simpa [Act.put] using hp.2.1.trans hF) (by simpa [Act.put] using hp.1) h
   · cases h
theorem RG.range {g : Operand} {ps : Array Tmp} {assign body : Code} {gf : Nat} {lb : Array Value} (H : Hp w0 S L w) (hg : evM M g = some (.func (.func gf) #[] lb)) (he : ∀ args w, (callFunc gf args).run P w = .ok (.enter gf args) w)
   {Xt : Type} (inv : Nat → Xt → Prop) (Lx : Nat → Xt → List Ent) (invr : Xt → Prop) (Lr : Xt → List Ent) {N : Nat} {enc : Nat → Array Value} {Rd : World → Prop} (hit : Iter P gf lb N enc Rd) (hps : ∀ k, (enc k).size = ps.size)
   (x0 : Xt) (h0 : inv 0 x0) (hL0 : Lx 0 x0 = L) (hRd : ∀ k x E W, inv k x → Hp w0 S (Lx k x ++ E) W → Rd W)
   (Mb : Nat → FM) (hMb : ∀ k, putL n (ps.toList.zip (enc k).toList) M = some (Mb k))
   (hround : ∀ (D l : Nat) (oR oB : Obj) (k : Nat) (x : Xt) (W : World) (K : Act → World → Prop), k < N → inv k x → Hp w0 S (Lx k x ++ [.obj D DF, .obj l oR]) W →
     (∀ (F : Array Value) (M' : FM) (L' : List Ent) (W' : World), F.size = n → Fits F M' → Hp w0 S (L' ++ [.obj D DF, .obj l oR]) W' →
       (∀ W'', Hp w0 S (L' ++ [.obj D DF, .obj l oB]) W'' → RG P body (some l) [] (RoundQ w0 S inv Lx invr Lr k [.obj D DF, .obj l oB]) n M' W'') → K ⟨F, []⟩ W') →
     RG P assign (some l) [] (Exit.then K (fun _ _ _ => False)) n (Mb k) W)
   (hdone : ∀ (D : Nat) (x : Xt) (W : World), inv N x → Hp w0 S (Lx N x ++ [.obj D DF]) W → ∀ F : Array Value, F.size = n → Fits F M → Q .normal ⟨F, [MK D]⟩ W)
   (hstop : ∀ (D : Nat) (x : Xt) (W : World), invr x → Hp w0 S (Lr x ++ [.obj D DF]) W → ∀ F : Array Value, F.size = n → Fits F M → Q .ret ⟨F, [MK D]⟩ W) :
   RG P (.rangeFunc g ps assign body) none [] Q n M w := by
 intro F hF hM
 refine wpIn_rangeFunc ?_
 intro fn _
 have hev : (⟨F, []⟩ : Act).eval g = .func (.func gf) #[] lb := evM_fits hM hg
 obtain ⟨rec, hrec⟩ : ∃ rec : LoopState → Option Code → Loop, rec = fun st pe => { state := st, pending := pe, fn, tmps := F, params := ps, assign, body, defers := w.heap.size } := ⟨_, rfl⟩
 have H1 := (H.newObj DF).newObj (.loop (rec .ready none))
 rw [List.append_assoc] at H1
 obtain ⟨W1, hW1⟩ : ∃ W1, (w.alloc DF).alloc (.loop (rec .ready none)) = W1 := ⟨_, rfl⟩
 rw [hW1, World.size_alloc] at H1
 refine ⟨w.heap.size + 1, [MK w.heap.size], W1, { target := .fn (.func gf) lb, args := #[.func (.yield (w.heap.size + 1)) #[] #[]] }, W1, gf, #[.func (.yield (w.heap.size + 1)) #[] #[]] ++ lb, W1, ?_, ?_, fun _ _ => trivial, ?_, fun h => (by cases h), ?_⟩
 · rw [← hW1, hrec]
   exact run_enterLoop_outer _ _ _ _ _
 · simp only [resolve, hev]
   simp [go_sem]
 · simp [invoke, go_sem, he]
 · generalize w.heap.size = D at *
   have hyield : ∀ k W, k < N → (∃ x, inv k x ∧ Hp w0 S (Lx k x ++ [.obj D DF, .obj (D + 1) (.loop (rec .ready none))]) W) → YieldAt (FR none) 0 P (D + 1) (enc k) W fun e W' =>
       (e = .returned (.bool true) ∧ ∃ x, inv (k + 1) x ∧ Hp w0 S (Lx (k + 1) x ++ [.obj D DF, .obj (D + 1) (.loop (rec .ready none))]) W') ∨
       (e = .returned (.bool false) ∧ ∃ x, invr x ∧ Hp w0 S (Lr x ++ [.obj D DF, .obj (D + 1) (.loop (rec .done (some .ret)))]) W') := by
     rintro k W hk ⟨x, hx, HW⟩
     have hl := HW.last
     have hy := run_yield (P := P) (args := enc k) hl (by rw [hrec]; exact hps k)
     rw [hrec] at hy
     refine ⟨fn, _, assign, body, hy, roundIn_of_wpIn (F := FR none) trivial ?_⟩
     have hfit : ((ps.zip (enc k)).foldl (fun t (p, v) => t.setIfInBounds p v) F).size = n ∧ Fits ((ps.zip (enc k)).foldl (fun t (p, v) => t.setIfInBounds p v) F) (Mb k) := by
       have h2 := putL_fits _ hF hM (hMb k)
       rw [← Array.foldl_toList, Array.toList_zip]
       exact h2
     refine hround D (D + 1) (.loop (rec .ready none)) (.loop { rec .ready none with state := .busy }) k x W _ hk hx HW ?_ _ hfit.1 hfit.2
     intro F' M' L' W' hF' hM' HW' hbody
     have hl' := HW'.last
     refine ⟨_, run_beginRound hl' (by rw [hrec]), ?_⟩
     have HB := HW'.turnLast (.loop { rec .ready none with state := .busy })
     refine wpIn_mono (hbody _ HB F' hF' hM') ?_
     intro e a3 W3 hp
     cases e with
     | normal =>
       obtain ⟨x', hx', H3⟩ := hp
       have hl3 := H3.last
       have hr := run_endRound (P := P) none hl3
       rw [hrec] at hr
       refine ⟨_, _, hr, .inl ⟨rfl, x', hx', ?_⟩⟩
       have H4 := H3.turnLast (.loop (rec .ready none))
       rw [hrec] at H4 ⊢
       exact H4
     | ret =>
       obtain ⟨x', hx', H3⟩ := hp
       have hl3 := H3.last
       have hr := run_endRound (P := P) (some .ret) hl3
       rw [hrec] at hr
       refine ⟨_, _, hr, .inr ⟨rfl, x', hx', ?_⟩⟩
       have H4 := H3.turnLast (.loop (rec .done (some .ret)))
       rw [hrec] at H4 ⊢
       exact H4
     | _ => exact hp.elim
   refine (callsFR (hit (D + 1) (fun k W => ∃ x, inv k x ∧ Hp w0 S (Lx k x ++ [.obj D DF, .obj (D + 1) (.loop (rec .ready none))]) W)
     (fun W => ∃ x, invr x ∧ Hp w0 S (Lr x ++ [.obj D DF, .obj (D + 1) (.loop (rec .done (some .ret)))]) W)
     (fun k W ⟨x, hx, HW⟩ => hRd k x _ W hx HW) (fun k W W' ⟨x, hx, HW⟩ hb => ⟨x, hx, HW.step hb⟩) hyield W1 ⟨x0, h0, by rw [hL0]; exact H1⟩)).mono ?_
   rintro e W2 ⟨⟨v, rfl⟩, (⟨x, hx, HW⟩ | ⟨x, hx, HW⟩)⟩
   · have hl := HW.last
     have hr := run_endLoop (P := P) hl (by rw [hrec]; simp)
     rw [hrec] at hr
     exact ⟨none, _, hr, hdone D x _ hx (HW.turnLast _).dropLast F hF hM⟩
   · have hl := HW.last
     have hr := run_endLoop (P := P) hl (by rw [hrec]; simp)
     rw [hrec] at hr
     exact ⟨some .ret, _, hr, wpIn_ret (hstop D x _ hx (HW.turnLast _).dropLast F hF hM)⟩
end
end Go.Proofs.Ytcedmbdahbdmaaa
set_option maxRecDepth 100000
namespace Go.Proofs.Ytcedmbdahbdmaaa
open Go.RowKit
theorem getD8 {bs : List UInt8} {k : Nat} (h : k < bs.length) : bs[k]? = some (bs.getD k 0) := by rw [List.getD_eq_getElem?_getD, List.getElem?_eq_getElem h]; rfl
theorem Clone_some (xs : List UInt8) (A : Option Addr) (n c : Nat) (w : World) (hA : A.isNone = false) (hx : RdS w A (by8 xs)) (hn : n = xs.length) (hb : n ≤ 1099511627776) : Calls Try.prog 30 #[.slice A n c] w fun e w' => ∃ A c, e = .returned (.slice A n c) ∧ Hp w [] [.row A n c 5 1 (by8 xs)] w' := by
 refine calls_G (args := [.slice A n c]) Try.func30 rfl Try.ntmps30 rfl ?_
 intro Q0 hRet hNor hPan
 have H := Hp.start w
 refine G.sr fun K1 hK2 => ?_
 refine GL.r 1 1 [(0, .slice A n c)] ?_
 refine GL.q hK2 ?_
 refine G.seqK fun K3 hK4 => ?_
 refine G.sr fun K5 hK6 => ?_
 refine GL.r 1 1 [(0, .slice A n c), (3, .slice A n c)] ?_
 refine GL.s 2 (run_sl_nil (P := Try.prog) (sz := 1) (t := 38) (n := n) (c := c) (A := A) (by kernel_rfl) _) [(0, .slice A n c), (4, .bool (Option.isNone A))] ?_
 refine GL.q hK6 ?_
 have hb7 : (Option.isNone A) = false := hA
 rw [hb7]
 refine G.no rfl ?_
 refine G.skipK hK4 (fun _ _ h => h) ?_
 refine G.sr fun K8 hK9 => ?_
 obtain ⟨p10, w11, r12, H13⟩ := H.madeRow (P := Try.prog) (Instr.buildSlice 38 0 #[]) (fun b_ => .slice (some ⟨b_, 0, none⟩) 0 0) [] 5 0 0 1 (by kernel_rfl) (by decide) (by decide) rfl
 refine GL.s 1 (r12) [(0, .slice A n c), (5, .slice (some ⟨p10, 0, none⟩) 0 0)] ?_
 refine GL.r 2 1 [(5, .slice (some ⟨p10, 0, none⟩) 0 0), (6, .slice A n c)] ?_
 obtain ⟨A14, c15, w16, r17, H18⟩ := H13.append (P := Try.prog) (e := 5) (sz := 1) (by_ := 1) (n := 0) (c := 0) (m := n) (d := c) (t := 38) (ty := 38) (xs := by8 ([] : List UInt8)) (news := by8 xs) 0 rfl (by kernel_rfl) (hx.hp H13) (by first | (simp [by8_length]; done) | (rw [by8_length]; omega) | (rw [by8_length, putB_length])) (by8_one _) (by omega) (by simp only [maxLen]; omega)
 rw [Nat.zero_add] at r17 H18
 have H18 : Hp w [] [.row A14 n c15 5 1 (by8 xs)] w16 := H18
 refine GL.s 3 (r17) [(7, .slice A14 n c15)] ?_
 refine GL.r 4 1 [(2, .slice A14 n c15)] ?_
 refine GL.q hK9 ?_
 refine G.ret fun F_ hF_ hM_ => hRet _ _ (bodyPost_1 rfl (RV.tmp rfl) ?_ F_ hF_ hM_)
 exact ⟨_, _, rfl, H18.sub (by simp)⟩
theorem Clone_nil (xs : List UInt8) (n c : Nat) (w : World) (hx : RdS w none (by8 [])) (hn : n = 0) (hb : n ≤ 1099511627776) : Calls Try.prog 30 #[.slice none n c] w fun e w' => ∃ A c, e = .returned (.slice A n c) ∧ Hp w [] [.row A n c 5 1 (by8 [])] w' := by
 refine calls_G (args := [.slice none n c]) Try.func30 rfl Try.ntmps30 rfl ?_
 intro Q0 hRet hNor hPan
 have H := Hp.start w
 refine G.sr fun K1 hK2 => ?_
 refine GL.r 1 1 [(0, .slice none n c)] ?_
 refine GL.q hK2 ?_
 refine G.seqK fun K3 hK4 => ?_
 refine G.sr fun K5 hK6 => ?_
 refine GL.r 1 1 [(0, .slice none n c), (3, .slice none n c)] ?_
 refine GL.s 2 (run_sl_nil (P := Try.prog) (sz := 1) (t := 38) (n := n) (c := c) (A := none) (by kernel_rfl) _) [(0, .slice none n c), (4, .bool true)] ?_
 refine GL.q hK6 ?_
 refine G.yes rfl ?_
 refine G.sr fun K7 hK8 => ?_
 refine GL.r 1 1 [(2, .slice none 0 0)] ?_
 refine GL.q hK8 ?_
 refine G.ret fun F_ hF_ hM_ => hRet _ _ (bodyPost_1 rfl (RV.tmp rfl) ?_ F_ hF_ hM_)
 obtain rfl : n = 0 := by omega
 exact ⟨none, 0, rfl, H.rowNil 5 1⟩
theorem Clone_calls (xs : List UInt8) (A : Option Addr) (n c : Nat) (w : World) (hx : RdS w A (by8 xs)) (hn : n = xs.length) (hb : n ≤ 1099511627776) : Calls Try.prog 30 #[.slice A n c] w fun e w' => ∃ A c, e = .returned (.slice A n c) ∧ Hp w [] [.row A n c 5 1 (by8 xs)] w' := by
 cases A with
 | some a => exact Clone_some xs (some a) n c w rfl hx hn hb
 | none =>
   have hxs : xs = [] := by
     rcases hx with h | ⟨a, h, _⟩
     · simpa [by8] using h
     · cases h
   subst hxs
   exact Clone_nil [] n c w hx hn hb
theorem Put1_calls (S : List Nat) (p : Nat) (A : Option Addr) (n c : Nat) (bs : List UInt8) (x : Nat) (w : World) (h0 : Hp w S [.blk p [.slice A n c] 114, .row A n c 5 1 (by8 bs)] w) (hn : n ≤ 1000000) : Calls Try.prog 62 #[pt p 0, .int .u64 (x : Int), .int .i64 1] w fun e w' => ∃ A c, e = .returned (.tuple #[]) ∧ Hp w S [.blk p [.slice A (n + 1) c] 114, .row A (n + 1) c 5 1 (by8 (bs ++ putB x 1))] w' := by
 refine calls_G (args := [pt p 0, vu x, li 1]) Try.func62 rfl Try.ntmps62 rfl ?_
 intro Q0 hRet hNor hPan
 have H := h0
 refine G.seqK fun K1 hK2 => ?_
 refine G.sr fun K3 hK4 => ?_
 refine GL.r 2 2 [(0, pt p 0), (1, vu x), (2, li 1), (7, .bool false)] ?_
 refine GL.q hK4 ?_
 refine G.no rfl ?_
 refine G.skipK hK2 (fun _ _ h => h) ?_
 refine G.sr fun K5 hK6 => ?_
 refine GL.r 1 1 [(0, pt p 0), (1, vu x), (2, li 1), (8, li 1)] ?_
 refine GL.q hK6 ?_
 refine G.block ?_
 refine G.seqK fun K7 hK8 => ?_
 refine G.sr fun K9 hK10 => ?_
 refine GL.r 2 2 [(0, pt p 0), (1, vu x), (2, li 1), (8, li 1), (9, .bool true)] ?_
 refine GL.q hK10 ?_
 refine G.yes rfl ?_
 refine G.skipK hK8 (fun _ _ h => h) ?_
 refine G.yes rfl ?_
 refine G.sr fun K11 hK12 => ?_
 refine GL.r 2 2 [(0, pt p 0), (1, vu x), (14, li 1), (15, li 0)] ?_
 refine GL.q hK12 ?_
 refine G.block ?_
 have H13 : Hp w S [.blk p [.slice A (n + 0) c] 114, .row A (n + 0) c 5 1 (by8 (bs ++ putB x 0))] w := by rw [show putB x 0 = [] from rfl, List.append_nil]; exact H
 refine G.fit [0, 1, 14, 15] (M' := [(0, pt p 0), (1, vu x), (14, li 1), (15, li 0)]) (by kernel_rfl) ?_
 refine G.eq (M' := [(0, pt p 0), (1, vu (x / 256 ^ 0)), (14, li 1), (15, li 0)]) (by simp only [Nat.pow_zero, Nat.div_one]) ?_
 refine G.loop (X := Nat × Option Addr × Nat) (fun ⟨i, B_, b_⟩ => [(0, pt p 0), (1, vu (x / 256 ^ i)), (14, li 1), (15, vi i)]) (fun ⟨i, B_, b_⟩ w_ => (i ≤ 1) ∧ Hp w S [.blk p [.slice B_ (n + i) b_] 114, .row B_ (n + i) b_ 5 1 (by8 (bs ++ putB x i))] w_) (fun ⟨i, B_, b_⟩ => 1 - i) ⟨0, A, c⟩ [0, 1, 14, 15] (by kernel_rfl) ⟨by omega, H13⟩ ?_
 rintro ⟨i, B_, b_⟩ w14 ⟨hi15, H16⟩
 refine G.eq (M' := [(0, pt p 0), (1, vu (x / 256 ^ i)), (14, li 1), (15, vi i)]) rfl ?_
 have hi9 := hi15
 refine G.sr fun K17 hK18 => ?_
 refine GL.r 1 1 [(0, pt p 0), (1, vu (x / 256 ^ i)), (14, li 1), (15, vi i), (16, .bool (decide ((i : Int) < 1)))] ?_
 refine GL.q hK18 ?_
 refine G.seqK fun K19 hK20 => ?_
 cases hb21 : (decide ((i : Int) < 1))
 · skip
   have hb21f := of_decide_eq_false hb21
   refine G.no rfl ?_
   refine fun F_ hF_ hM_ => wp_exit ?_
   refine hNor _ _ (bodyPost_0 rfl  ?_ F_ hF_ hM_)
   have HF := H16
   rw [show i = 1 by omega] at HF
   exact ⟨_, _, rfl, HF⟩
 · skip
   have hb21f := of_decide_eq_true hb21
   refine G.yes rfl ?_
   refine G.skipK hK20 (fun _ _ h => h) ?_
   refine G.seqK fun K22 hK23 => ?_
   refine G.block ?_
   refine G.sr fun K24 hK25 => ?_
   refine GL.r 4 4 [(0, pt p 0), (1, vu (x / 256 ^ i)), (14, li 1), (15, vi i), (17, pt p 0), (20, pt p 0)] ?_
   refine GL.s 5 (H16.ld (o := 0) (ty := 38) (v := .slice B_ (n + i) b_) 0 rfl (by kernel_rfl) rfl) [(0, pt p 0), (1, vu (x / 256 ^ i)), (14, li 1), (15, vi i), (17, pt p 0), (21, .slice B_ (n + i) b_)] ?_
   refine GL.r 7 2 [(0, pt p 0), (1, vu (x / 256 ^ i)), (14, li 1), (15, vi i), (17, pt p 0), (21, .slice B_ (n + i) b_), (23, lb (IntKind.u8.wrap ((x / 256 ^ i : Nat) : Int)))] ?_
   have e26 : (IntKind.u8.wrap ((x / 256 ^ i : Nat) : Int)) = ((UInt8.ofNat (x / 256 ^ i)).toNat : Int) := n_byte _
   rw [e26]
   clear e26
   obtain ⟨p27, w28, r29, H30⟩ := H16.made (P := Try.prog) (Instr.buildSlice 38 1 #[(0, lb ((UInt8.ofNat (x / 256 ^ i)).toNat : Int))]) (fun b_ => .slice (some ⟨b_, 0, none⟩) 1 1) [lb ((UInt8.ofNat (x / 256 ^ i)).toNat : Int)] 5 (by kernel_rfl)
   refine GL.s 8 (r29) [(0, pt p 0), (1, vu (x / 256 ^ i)), (14, li 1), (15, vi i), (17, pt p 0), (21, .slice B_ (n + i) b_), (24, .slice (some ⟨p27, 0, none⟩) 1 1)] ?_
   obtain ⟨A31, c32, w33, r34, H35⟩ := H30.append (P := Try.prog) (e := 5) (sz := 1) (by_ := 1) (n := (n + i)) (c := b_) (m := 1) (d := 1) (t := 38) (ty := 38) (xs := by8 (bs ++ putB x i)) (news := by8 ([(UInt8.ofNat (x / 256 ^ i))] : List UInt8)) 1 rfl (by kernel_rfl) (H30.rdBlk (o := 0) (xs := by8 ([(UInt8.ofNat (x / 256 ^ i))] : List UInt8)) 2 1 rfl rfl) (by first | (simp [by8_length]; done) | (rw [by8_length]; omega) | (rw [by8_length, putB_length])) (by8_one _) (by omega) (by simp only [maxLen]; omega)
   rw [← by8_append] at H35
   refine GL.s 9 (r34) [(0, pt p 0), (1, vu (x / 256 ^ i)), (14, li 1), (15, vi i), (17, pt p 0), (25, .slice A31 ((n + i) + 1) c32)] ?_
   refine GL.r 11 2 [(0, pt p 0), (1, vu (x / 256 ^ i)), (14, li 1), (15, vi i), (25, .slice A31 ((n + i) + 1) c32), (27, pt p 0)] ?_
   obtain ⟨w36, r37, H38⟩ := H35.st (P := Try.prog) (o := 0) (ty := 38) (v := .slice A31 ((n + i) + 1) c32) 0 rfl (by kernel_rfl) (by simp) rfl
   refine GL.u 12 r37 [(0, pt p 0), (1, vu (x / 256 ^ i)), (14, li 1), (15, vi i)] ?_
   refine GL.q hK25 ?_
   refine G.region ?_
   refine GL.r 3 3 [(0, pt p 0), (1, lu (Int.fdiv ((x / 256 ^ i : Nat) : Int) (2 ^ 8))), (14, li 1), (15, vi i)] ?_
   have e39 : (Int.fdiv ((x / 256 ^ i : Nat) : Int) (2 ^ 8)) = (((x / 256 ^ i) / 256 : Nat) : Int) := n_shr _ 8
   rw [e39]
   clear e39
   refine GL.q hK23 ?_
   refine G.region ?_
   refine GL.r 2 2 [(0, pt p 0), (1, vu ((x / 256 ^ i) / 256)), (14, li 1), (15, li (IntKind.i64.wrap ((i : Int) + 1)))] ?_
   have e40 : (IntKind.i64.wrap ((i : Int) + 1)) = ((i + 1 : Nat) : Int) := by rw [in_i64 (by omega)]; omega
   rw [e40]
   clear e40
   have H41 : Hp w S [.blk p [.slice A31 ((n + i) + 1) c32] 114, .row A31 ((n + i) + 1) c32 5 1 (by8 ((bs ++ putB x i) ++ ([(UInt8.ofNat (x / 256 ^ i))] : List UInt8)))] w36 := H38.sub (List.Sublist.cons_cons _ (List.Sublist.cons_cons _ (List.Sublist.cons _ (List.Sublist.slnil))))
   have H42 : Hp w S [.blk p [.slice A31 (n + (i + 1)) c32] 114, .row A31 (n + (i + 1)) c32 5 1 (by8 (bs ++ putB x (i + 1)))] w36 := by rw [putB_snoc, ← List.append_assoc]; exact H41
   refine GL.fit (ts := [0, 1, 14, 15]) (M' := [(0, pt p 0), (1, vu ((x / 256 ^ i) / 256)), (14, li 1), (15, vi (i + 1))]) (by kernel_rfl) ?_
   refine GL.eq (M' := [(0, pt p 0), (1, vu (x / 256 ^ (i + 1))), (14, li 1), (15, vi (i + 1))]) (by rw [Nat.pow_succ, ← Nat.div_div_eq_div_mul]) ?_
   exact GL.again ⟨(i + 1), A31, c32⟩ [0, 1, 14, 15] rfl (by kernel_rfl) (by show 1 - (i + 1) < 1 - i; omega) ⟨by omega, H42⟩
theorem Put2_calls (S : List Nat) (p : Nat) (A : Option Addr) (n c : Nat) (bs : List UInt8) (x : Nat) (w : World) (h0 : Hp w S [.blk p [.slice A n c] 114, .row A n c 5 1 (by8 bs)] w) (hn : n ≤ 1000000) : Calls Try.prog 62 #[pt p 0, .int .u64 (x : Int), .int .i64 2] w fun e w' => ∃ A c, e = .returned (.tuple #[]) ∧ Hp w S [.blk p [.slice A (n + 2) c] 114, .row A (n + 2) c 5 1 (by8 (bs ++ putB x 2))] w' := by
 refine calls_G (args := [pt p 0, vu x, li 2]) Try.func62 rfl Try.ntmps62 rfl ?_
 intro Q0 hRet hNor hPan
 have H := h0
 refine G.seqK fun K1 hK2 => ?_
 refine G.sr fun K3 hK4 => ?_
 refine GL.r 2 2 [(0, pt p 0), (1, vu x), (2, li 2), (7, .bool false)] ?_
 refine GL.q hK4 ?_
 refine G.no rfl ?_
 refine G.skipK hK2 (fun _ _ h => h) ?_
 refine G.sr fun K5 hK6 => ?_
 refine GL.r 1 1 [(0, pt p 0), (1, vu x), (2, li 2), (8, li 2)] ?_
 refine GL.q hK6 ?_
 refine G.block ?_
 refine G.seqK fun K7 hK8 => ?_
 refine G.sr fun K9 hK10 => ?_
 refine GL.r 2 2 [(0, pt p 0), (1, vu x), (2, li 2), (8, li 2), (9, .bool false)] ?_
 refine GL.q hK10 ?_
 refine G.no rfl ?_
 refine G.sr fun K11 hK12 => ?_
 refine GL.r 2 2 [(0, pt p 0), (1, vu x), (2, li 2), (8, li 2), (9, .bool true)] ?_
 refine GL.q hK12 ?_
 refine G.yes rfl ?_
 refine G.skipK hK8 (fun _ _ h => h) ?_
 refine G.yes rfl ?_
 refine G.sr fun K13 hK14 => ?_
 refine GL.r 2 2 [(0, pt p 0), (1, vu x), (14, li 2), (15, li 0)] ?_
 refine GL.q hK14 ?_
 refine G.block ?_
 have H15 : Hp w S [.blk p [.slice A (n + 0) c] 114, .row A (n + 0) c 5 1 (by8 (bs ++ putB x 0))] w := by rw [show putB x 0 = [] from rfl, List.append_nil]; exact H
 refine G.fit [0, 1, 14, 15] (M' := [(0, pt p 0), (1, vu x), (14, li 2), (15, li 0)]) (by kernel_rfl) ?_
 refine G.eq (M' := [(0, pt p 0), (1, vu (x / 256 ^ 0)), (14, li 2), (15, li 0)]) (by simp only [Nat.pow_zero, Nat.div_one]) ?_
 refine G.loop (X := Nat × Option Addr × Nat) (fun ⟨i, B_, b_⟩ => [(0, pt p 0), (1, vu (x / 256 ^ i)), (14, li 2), (15, vi i)]) (fun ⟨i, B_, b_⟩ w_ => (i ≤ 2) ∧ Hp w S [.blk p [.slice B_ (n + i) b_] 114, .row B_ (n + i) b_ 5 1 (by8 (bs ++ putB x i))] w_) (fun ⟨i, B_, b_⟩ => 2 - i) ⟨0, A, c⟩ [0, 1, 14, 15] (by kernel_rfl) ⟨by omega, H15⟩ ?_
 rintro ⟨i, B_, b_⟩ w16 ⟨hi17, H18⟩
 refine G.eq (M' := [(0, pt p 0), (1, vu (x / 256 ^ i)), (14, li 2), (15, vi i)]) rfl ?_
 have hi9 := hi17
 refine G.sr fun K19 hK20 => ?_
 refine GL.r 1 1 [(0, pt p 0), (1, vu (x / 256 ^ i)), (14, li 2), (15, vi i), (16, .bool (decide ((i : Int) < 2)))] ?_
 refine GL.q hK20 ?_
 refine G.seqK fun K21 hK22 => ?_
 cases hb23 : (decide ((i : Int) < 2))
 · skip
   have hb23f := of_decide_eq_false hb23
   refine G.no rfl ?_
   refine fun F_ hF_ hM_ => wp_exit ?_
   refine hNor _ _ (bodyPost_0 rfl  ?_ F_ hF_ hM_)
   have HF := H18
   rw [show i = 2 by omega] at HF
   exact ⟨_, _, rfl, HF⟩
 · skip
   have hb23f := of_decide_eq_true hb23
   refine G.yes rfl ?_
   refine G.skipK hK22 (fun _ _ h => h) ?_
   refine G.seqK fun K24 hK25 => ?_
   refine G.block ?_
   refine G.sr fun K26 hK27 => ?_
   refine GL.r 4 4 [(0, pt p 0), (1, vu (x / 256 ^ i)), (14, li 2), (15, vi i), (17, pt p 0), (20, pt p 0)] ?_
   refine GL.s 5 (H18.ld (o := 0) (ty := 38) (v := .slice B_ (n + i) b_) 0 rfl (by kernel_rfl) rfl) [(0, pt p 0), (1, vu (x / 256 ^ i)), (14, li 2), (15, vi i), (17, pt p 0), (21, .slice B_ (n + i) b_)] ?_
   refine GL.r 7 2 [(0, pt p 0), (1, vu (x / 256 ^ i)), (14, li 2), (15, vi i), (17, pt p 0), (21, .slice B_ (n + i) b_), (23, lb (IntKind.u8.wrap ((x / 256 ^ i : Nat) : Int)))] ?_
   have e28 : (IntKind.u8.wrap ((x / 256 ^ i : Nat) : Int)) = ((UInt8.ofNat (x / 256 ^ i)).toNat : Int) := n_byte _
   rw [e28]
   clear e28
   obtain ⟨p29, w30, r31, H32⟩ := H18.made (P := Try.prog) (Instr.buildSlice 38 1 #[(0, lb ((UInt8.ofNat (x / 256 ^ i)).toNat : Int))]) (fun b_ => .slice (some ⟨b_, 0, none⟩) 1 1) [lb ((UInt8.ofNat (x / 256 ^ i)).toNat : Int)] 5 (by kernel_rfl)
   refine GL.s 8 (r31) [(0, pt p 0), (1, vu (x / 256 ^ i)), (14, li 2), (15, vi i), (17, pt p 0), (21, .slice B_ (n + i) b_), (24, .slice (some ⟨p29, 0, none⟩) 1 1)] ?_
   obtain ⟨A33, c34, w35, r36, H37⟩ := H32.append (P := Try.prog) (e := 5) (sz := 1) (by_ := 1) (n := (n + i)) (c := b_) (m := 1) (d := 1) (t := 38) (ty := 38) (xs := by8 (bs ++ putB x i)) (news := by8 ([(UInt8.ofNat (x / 256 ^ i))] : List UInt8)) 1 rfl (by kernel_rfl) (H32.rdBlk (o := 0) (xs := by8 ([(UInt8.ofNat (x / 256 ^ i))] : List UInt8)) 2 1 rfl rfl) (by first | (simp [by8_length]; done) | (rw [by8_length]; omega) | (rw [by8_length, putB_length])) (by8_one _) (by omega) (by simp only [maxLen]; omega)
   rw [← by8_append] at H37
   refine GL.s 9 (r36) [(0, pt p 0), (1, vu (x / 256 ^ i)), (14, li 2), (15, vi i), (17, pt p 0), (25, .slice A33 ((n + i) + 1) c34)] ?_
   refine GL.r 11 2 [(0, pt p 0), (1, vu (x / 256 ^ i)), (14, li 2), (15, vi i), (25, .slice A33 ((n + i) + 1) c34), (27, pt p 0)] ?_
   obtain ⟨w38, r39, H40⟩ := H37.st (P := Try.prog) (o := 0) (ty := 38) (v := .slice A33 ((n + i) + 1) c34) 0 rfl (by kernel_rfl) (by simp) rfl
   refine GL.u 12 r39 [(0, pt p 0), (1, vu (x / 256 ^ i)), (14, li 2), (15, vi i)] ?_
   refine GL.q hK27 ?_
   refine G.region ?_
   refine GL.r 3 3 [(0, pt p 0), (1, lu (Int.fdiv ((x / 256 ^ i : Nat) : Int) (2 ^ 8))), (14, li 2), (15, vi i)] ?_
   have e41 : (Int.fdiv ((x / 256 ^ i : Nat) : Int) (2 ^ 8)) = (((x / 256 ^ i) / 256 : Nat) : Int) := n_shr _ 8
   rw [e41]
   clear e41
   refine GL.q hK25 ?_
   refine G.region ?_
   refine GL.r 2 2 [(0, pt p 0), (1, vu ((x / 256 ^ i) / 256)), (14, li 2), (15, li (IntKind.i64.wrap ((i : Int) + 1)))] ?_
   have e42 : (IntKind.i64.wrap ((i : Int) + 1)) = ((i + 1 : Nat) : Int) := by rw [in_i64 (by omega)]; omega
   rw [e42]
   clear e42
   have H43 : Hp w S [.blk p [.slice A33 ((n + i) + 1) c34] 114, .row A33 ((n + i) + 1) c34 5 1 (by8 ((bs ++ putB x i) ++ ([(UInt8.ofNat (x / 256 ^ i))] : List UInt8)))] w38 := H40.sub (List.Sublist.cons_cons _ (List.Sublist.cons_cons _ (List.Sublist.cons _ (List.Sublist.slnil))))
   have H44 : Hp w S [.blk p [.slice A33 (n + (i + 1)) c34] 114, .row A33 (n + (i + 1)) c34 5 1 (by8 (bs ++ putB x (i + 1)))] w38 := by rw [putB_snoc, ← List.append_assoc]; exact H43
   refine GL.fit (ts := [0, 1, 14, 15]) (M' := [(0, pt p 0), (1, vu ((x / 256 ^ i) / 256)), (14, li 2), (15, vi (i + 1))]) (by kernel_rfl) ?_
   refine GL.eq (M' := [(0, pt p 0), (1, vu (x / 256 ^ (i + 1))), (14, li 2), (15, vi (i + 1))]) (by rw [Nat.pow_succ, ← Nat.div_div_eq_div_mul]) ?_
   exact GL.again ⟨(i + 1), A33, c34⟩ [0, 1, 14, 15] rfl (by kernel_rfl) (by show 2 - (i + 1) < 2 - i; omega) ⟨by omega, H44⟩
theorem Put4_calls (S : List Nat) (p : Nat) (A : Option Addr) (n c : Nat) (bs : List UInt8) (x : Nat) (w : World) (h0 : Hp w S [.blk p [.slice A n c] 114, .row A n c 5 1 (by8 bs)] w) (hn : n ≤ 1000000) : Calls Try.prog 62 #[pt p 0, .int .u64 (x : Int), .int .i64 4] w fun e w' => ∃ A c, e = .returned (.tuple #[]) ∧ Hp w S [.blk p [.slice A (n + 4) c] 114, .row A (n + 4) c 5 1 (by8 (bs ++ putB x 4))] w' := by
 refine calls_G (args := [pt p 0, vu x, li 4]) Try.func62 rfl Try.ntmps62 rfl ?_
 intro Q0 hRet hNor hPan
 have H := h0
 refine G.seqK fun K1 hK2 => ?_
 refine G.sr fun K3 hK4 => ?_
 refine GL.r 2 2 [(0, pt p 0), (1, vu x), (2, li 4), (7, .bool false)] ?_
 refine GL.q hK4 ?_
 refine G.no rfl ?_
 refine G.skipK hK2 (fun _ _ h => h) ?_
 refine G.sr fun K5 hK6 => ?_
 refine GL.r 1 1 [(0, pt p 0), (1, vu x), (2, li 4), (8, li 4)] ?_
 refine GL.q hK6 ?_
 refine G.block ?_
 refine G.seqK fun K7 hK8 => ?_
 refine G.sr fun K9 hK10 => ?_
 refine GL.r 2 2 [(0, pt p 0), (1, vu x), (2, li 4), (8, li 4), (9, .bool false)] ?_
 refine GL.q hK10 ?_
 refine G.no rfl ?_
 refine G.sr fun K11 hK12 => ?_
 refine GL.r 2 2 [(0, pt p 0), (1, vu x), (2, li 4), (8, li 4), (9, .bool false)] ?_
 refine GL.q hK12 ?_
 refine G.no rfl ?_
 refine G.sr fun K13 hK14 => ?_
 refine GL.r 2 2 [(0, pt p 0), (1, vu x), (2, li 4), (8, li 4), (9, .bool true)] ?_
 refine GL.q hK14 ?_
 refine G.yes rfl ?_
 refine G.skipK hK8 (fun _ _ h => h) ?_
 refine G.yes rfl ?_
 refine G.sr fun K15 hK16 => ?_
 refine GL.r 2 2 [(0, pt p 0), (1, vu x), (14, li 4), (15, li 0)] ?_
 refine GL.q hK16 ?_
 refine G.block ?_
 have H17 : Hp w S [.blk p [.slice A (n + 0) c] 114, .row A (n + 0) c 5 1 (by8 (bs ++ putB x 0))] w := by rw [show putB x 0 = [] from rfl, List.append_nil]; exact H
 refine G.fit [0, 1, 14, 15] (M' := [(0, pt p 0), (1, vu x), (14, li 4), (15, li 0)]) (by kernel_rfl) ?_
 refine G.eq (M' := [(0, pt p 0), (1, vu (x / 256 ^ 0)), (14, li 4), (15, li 0)]) (by simp only [Nat.pow_zero, Nat.div_one]) ?_
 refine G.loop (X := Nat × Option Addr × Nat) (fun ⟨i, B_, b_⟩ => [(0, pt p 0), (1, vu (x / 256 ^ i)), (14, li 4), (15, vi i)]) (fun ⟨i, B_, b_⟩ w_ => (i ≤ 4) ∧ Hp w S [.blk p [.slice B_ (n + i) b_] 114, .row B_ (n + i) b_ 5 1 (by8 (bs ++ putB x i))] w_) (fun ⟨i, B_, b_⟩ => 4 - i) ⟨0, A, c⟩ [0, 1, 14, 15] (by kernel_rfl) ⟨by omega, H17⟩ ?_
 rintro ⟨i, B_, b_⟩ w18 ⟨hi19, H20⟩
 refine G.eq (M' := [(0, pt p 0), (1, vu (x / 256 ^ i)), (14, li 4), (15, vi i)]) rfl ?_
 have hi9 := hi19
 refine G.sr fun K21 hK22 => ?_
 refine GL.r 1 1 [(0, pt p 0), (1, vu (x / 256 ^ i)), (14, li 4), (15, vi i), (16, .bool (decide ((i : Int) < 4)))] ?_
 refine GL.q hK22 ?_
 refine G.seqK fun K23 hK24 => ?_
 cases hb25 : (decide ((i : Int) < 4))
 · skip
   have hb25f := of_decide_eq_false hb25
   refine G.no rfl ?_
   refine fun F_ hF_ hM_ => wp_exit ?_
   refine hNor _ _ (bodyPost_0 rfl  ?_ F_ hF_ hM_)
   have HF := H20
   rw [show i = 4 by omega] at HF
   exact ⟨_, _, rfl, HF⟩
 · skip
   have hb25f := of_decide_eq_true hb25
   refine G.yes rfl ?_
   refine G.skipK hK24 (fun _ _ h => h) ?_
   refine G.seqK fun K26 hK27 => ?_
   refine G.block ?_
   refine G.sr fun K28 hK29 => ?_
   refine GL.r 4 4 [(0, pt p 0), (1, vu (x / 256 ^ i)), (14, li 4), (15, vi i), (17, pt p 0), (20, pt p 0)] ?_
   refine GL.s 5 (H20.ld (o := 0) (ty := 38) (v := .slice B_ (n + i) b_) 0 rfl (by kernel_rfl) rfl) [(0, pt p 0), (1, vu (x / 256 ^ i)), (14, li 4), (15, vi i), (17, pt p 0), (21, .slice B_ (n + i) b_)] ?_
   refine GL.r 7 2 [(0, pt p 0), (1, vu (x / 256 ^ i)), (14, li 4), (15, vi i), (17, pt p 0), (21, .slice B_ (n + i) b_), (23, lb (IntKind.u8.wrap ((x / 256 ^ i : Nat) : Int)))] ?_
   have e30 : (IntKind.u8.wrap ((x / 256 ^ i : Nat) : Int)) = ((UInt8.ofNat (x / 256 ^ i)).toNat : Int) := n_byte _
   rw [e30]
   clear e30
   obtain ⟨p31, w32, r33, H34⟩ := H20.made (P := Try.prog) (Instr.buildSlice 38 1 #[(0, lb ((UInt8.ofNat (x / 256 ^ i)).toNat : Int))]) (fun b_ => .slice (some ⟨b_, 0, none⟩) 1 1) [lb ((UInt8.ofNat (x / 256 ^ i)).toNat : Int)] 5 (by kernel_rfl)
   refine GL.s 8 (r33) [(0, pt p 0), (1, vu (x / 256 ^ i)), (14, li 4), (15, vi i), (17, pt p 0), (21, .slice B_ (n + i) b_), (24, .slice (some ⟨p31, 0, none⟩) 1 1)] ?_
   obtain ⟨A35, c36, w37, r38, H39⟩ := H34.append (P := Try.prog) (e := 5) (sz := 1) (by_ := 1) (n := (n + i)) (c := b_) (m := 1) (d := 1) (t := 38) (ty := 38) (xs := by8 (bs ++ putB x i)) (news := by8 ([(UInt8.ofNat (x / 256 ^ i))] : List UInt8)) 1 rfl (by kernel_rfl) (H34.rdBlk (o := 0) (xs := by8 ([(UInt8.ofNat (x / 256 ^ i))] : List UInt8)) 2 1 rfl rfl) (by first | (simp [by8_length]; done) | (rw [by8_length]; omega) | (rw [by8_length, putB_length])) (by8_one _) (by omega) (by simp only [maxLen]; omega)
   rw [← by8_append] at H39
   refine GL.s 9 (r38) [(0, pt p 0), (1, vu (x / 256 ^ i)), (14, li 4), (15, vi i), (17, pt p 0), (25, .slice A35 ((n + i) + 1) c36)] ?_
   refine GL.r 11 2 [(0, pt p 0), (1, vu (x / 256 ^ i)), (14, li 4), (15, vi i), (25, .slice A35 ((n + i) + 1) c36), (27, pt p 0)] ?_
   obtain ⟨w40, r41, H42⟩ := H39.st (P := Try.prog) (o := 0) (ty := 38) (v := .slice A35 ((n + i) + 1) c36) 0 rfl (by kernel_rfl) (by simp) rfl
   refine GL.u 12 r41 [(0, pt p 0), (1, vu (x / 256 ^ i)), (14, li 4), (15, vi i)] ?_
   refine GL.q hK29 ?_
   refine G.region ?_
   refine GL.r 3 3 [(0, pt p 0), (1, lu (Int.fdiv ((x / 256 ^ i : Nat) : Int) (2 ^ 8))), (14, li 4), (15, vi i)] ?_
   have e43 : (Int.fdiv ((x / 256 ^ i : Nat) : Int) (2 ^ 8)) = (((x / 256 ^ i) / 256 : Nat) : Int) := n_shr _ 8
   rw [e43]
   clear e43
   refine GL.q hK27 ?_
   refine G.region ?_
   refine GL.r 2 2 [(0, pt p 0), (1, vu ((x / 256 ^ i) / 256)), (14, li 4), (15, li (IntKind.i64.wrap ((i : Int) + 1)))] ?_
   have e44 : (IntKind.i64.wrap ((i : Int) + 1)) = ((i + 1 : Nat) : Int) := by rw [in_i64 (by omega)]; omega
   rw [e44]
   clear e44
   have H45 : Hp w S [.blk p [.slice A35 ((n + i) + 1) c36] 114, .row A35 ((n + i) + 1) c36 5 1 (by8 ((bs ++ putB x i) ++ ([(UInt8.ofNat (x / 256 ^ i))] : List UInt8)))] w40 := H42.sub (List.Sublist.cons_cons _ (List.Sublist.cons_cons _ (List.Sublist.cons _ (List.Sublist.slnil))))
   have H46 : Hp w S [.blk p [.slice A35 (n + (i + 1)) c36] 114, .row A35 (n + (i + 1)) c36 5 1 (by8 (bs ++ putB x (i + 1)))] w40 := by rw [putB_snoc, ← List.append_assoc]; exact H45
   refine GL.fit (ts := [0, 1, 14, 15]) (M' := [(0, pt p 0), (1, vu ((x / 256 ^ i) / 256)), (14, li 4), (15, vi (i + 1))]) (by kernel_rfl) ?_
   refine GL.eq (M' := [(0, pt p 0), (1, vu (x / 256 ^ (i + 1))), (14, li 4), (15, vi (i + 1))]) (by rw [Nat.pow_succ, ← Nat.div_div_eq_div_mul]) ?_
   exact GL.again ⟨(i + 1), A35, c36⟩ [0, 1, 14, 15] rfl (by kernel_rfl) (by show 4 - (i + 1) < 4 - i; omega) ⟨by omega, H46⟩
theorem Put8_calls (S : List Nat) (p : Nat) (A : Option Addr) (n c : Nat) (bs : List UInt8) (x : Nat) (w : World) (h0 : Hp w S [.blk p [.slice A n c] 114, .row A n c 5 1 (by8 bs)] w) (hn : n ≤ 1000000) : Calls Try.prog 62 #[pt p 0, .int .u64 (x : Int), .int .i64 8] w fun e w' => ∃ A c, e = .returned (.tuple #[]) ∧ Hp w S [.blk p [.slice A (n + 8) c] 114, .row A (n + 8) c 5 1 (by8 (bs ++ putB x 8))] w' := by
 refine calls_G (args := [pt p 0, vu x, li 8]) Try.func62 rfl Try.ntmps62 rfl ?_
 intro Q0 hRet hNor hPan
 have H := h0
 refine G.seqK fun K1 hK2 => ?_
 refine G.sr fun K3 hK4 => ?_
 refine GL.r 2 2 [(0, pt p 0), (1, vu x), (2, li 8), (7, .bool false)] ?_
 refine GL.q hK4 ?_
 refine G.no rfl ?_
 refine G.skipK hK2 (fun _ _ h => h) ?_
 refine G.sr fun K5 hK6 => ?_
 refine GL.r 1 1 [(0, pt p 0), (1, vu x), (2, li 8), (8, li 8)] ?_
 refine GL.q hK6 ?_
 refine G.block ?_
 refine G.seqK fun K7 hK8 => ?_
 refine G.sr fun K9 hK10 => ?_
 refine GL.r 2 2 [(0, pt p 0), (1, vu x), (2, li 8), (8, li 8), (9, .bool false)] ?_
 refine GL.q hK10 ?_
 refine G.no rfl ?_
 refine G.sr fun K11 hK12 => ?_
 refine GL.r 2 2 [(0, pt p 0), (1, vu x), (2, li 8), (8, li 8), (9, .bool false)] ?_
 refine GL.q hK12 ?_
 refine G.no rfl ?_
 refine G.sr fun K13 hK14 => ?_
 refine GL.r 2 2 [(0, pt p 0), (1, vu x), (2, li 8), (8, li 8), (9, .bool false)] ?_
 refine GL.q hK14 ?_
 refine G.no rfl ?_
 refine G.region ?_
 refine GL.r 2 2 [(0, pt p 0), (1, vu x), (2, li 8), (9, .bool true)] ?_
 refine GL.q hK8 ?_
 refine G.yes rfl ?_
 refine G.sr fun K15 hK16 => ?_
 refine GL.r 2 2 [(0, pt p 0), (1, vu x), (14, li 8), (15, li 0)] ?_
 refine GL.q hK16 ?_
 refine G.block ?_
 have H17 : Hp w S [.blk p [.slice A (n + 0) c] 114, .row A (n + 0) c 5 1 (by8 (bs ++ putB x 0))] w := by rw [show putB x 0 = [] from rfl, List.append_nil]; exact H
 refine G.fit [0, 1, 14, 15] (M' := [(0, pt p 0), (1, vu x), (14, li 8), (15, li 0)]) (by kernel_rfl) ?_
 refine G.eq (M' := [(0, pt p 0), (1, vu (x / 256 ^ 0)), (14, li 8), (15, li 0)]) (by simp only [Nat.pow_zero, Nat.div_one]) ?_
 refine G.loop (X := Nat × Option Addr × Nat) (fun ⟨i, B_, b_⟩ => [(0, pt p 0), (1, vu (x / 256 ^ i)), (14, li 8), (15, vi i)]) (fun ⟨i, B_, b_⟩ w_ => (i ≤ 8) ∧ Hp w S [.blk p [.slice B_ (n + i) b_] 114, .row B_ (n + i) b_ 5 1 (by8 (bs ++ putB x i))] w_) (fun ⟨i, B_, b_⟩ => 8 - i) ⟨0, A, c⟩ [0, 1, 14, 15] (by kernel_rfl) ⟨by omega, H17⟩ ?_
 rintro ⟨i, B_, b_⟩ w18 ⟨hi19, H20⟩
 refine G.eq (M' := [(0, pt p 0), (1, vu (x / 256 ^ i)), (14, li 8), (15, vi i)]) rfl ?_
 have hi9 := hi19
 refine G.sr fun K21 hK22 => ?_
 refine GL.r 1 1 [(0, pt p 0), (1, vu (x / 256 ^ i)), (14, li 8), (15, vi i), (16, .bool (decide ((i : Int) < 8)))] ?_
 refine GL.q hK22 ?_
 refine G.seqK fun K23 hK24 => ?_
 cases hb25 : (decide ((i : Int) < 8))
 · skip
   have hb25f := of_decide_eq_false hb25
   refine G.no rfl ?_
   refine fun F_ hF_ hM_ => wp_exit ?_
   refine hNor _ _ (bodyPost_0 rfl  ?_ F_ hF_ hM_)
   have HF := H20
   rw [show i = 8 by omega] at HF
   exact ⟨_, _, rfl, HF⟩
 · skip
   have hb25f := of_decide_eq_true hb25
   refine G.yes rfl ?_
   refine G.skipK hK24 (fun _ _ h => h) ?_
   refine G.seqK fun K26 hK27 => ?_
   refine G.block ?_
   refine G.sr fun K28 hK29 => ?_
   refine GL.r 4 4 [(0, pt p 0), (1, vu (x / 256 ^ i)), (14, li 8), (15, vi i), (17, pt p 0), (20, pt p 0)] ?_
   refine GL.s 5 (H20.ld (o := 0) (ty := 38) (v := .slice B_ (n + i) b_) 0 rfl (by kernel_rfl) rfl) [(0, pt p 0), (1, vu (x / 256 ^ i)), (14, li 8), (15, vi i), (17, pt p 0), (21, .slice B_ (n + i) b_)] ?_
   refine GL.r 7 2 [(0, pt p 0), (1, vu (x / 256 ^ i)), (14, li 8), (15, vi i), (17, pt p 0), (21, .slice B_ (n + i) b_), (23, lb (IntKind.u8.wrap ((x / 256 ^ i : Nat) : Int)))] ?_
   have e30 : (IntKind.u8.wrap ((x / 256 ^ i : Nat) : Int)) = ((UInt8.ofNat (x / 256 ^ i)).toNat : Int) := n_byte _
   rw [e30]
   clear e30
   obtain ⟨p31, w32, r33, H34⟩ := H20.made (P := Try.prog) (Instr.buildSlice 38 1 #[(0, lb ((UInt8.ofNat (x / 256 ^ i)).toNat : Int))]) (fun b_ => .slice (some ⟨b_, 0, none⟩) 1 1) [lb ((UInt8.ofNat (x / 256 ^ i)).toNat : Int)] 5 (by kernel_rfl)
   refine GL.s 8 (r33) [(0, pt p 0), (1, vu (x / 256 ^ i)), (14, li 8), (15, vi i), (17, pt p 0), (21, .slice B_ (n + i) b_), (24, .slice (some ⟨p31, 0, none⟩) 1 1)] ?_
   obtain ⟨A35, c36, w37, r38, H39⟩ := H34.append (P := Try.prog) (e := 5) (sz := 1) (by_ := 1) (n := (n + i)) (c := b_) (m := 1) (d := 1) (t := 38) (ty := 38) (xs := by8 (bs ++ putB x i)) (news := by8 ([(UInt8.ofNat (x / 256 ^ i))] : List UInt8)) 1 rfl (by kernel_rfl) (H34.rdBlk (o := 0) (xs := by8 ([(UInt8.ofNat (x / 256 ^ i))] : List UInt8)) 2 1 rfl rfl) (by first | (simp [by8_length]; done) | (rw [by8_length]; omega) | (rw [by8_length, putB_length])) (by8_one _) (by omega) (by simp only [maxLen]; omega)
   rw [← by8_append] at H39
   refine GL.s 9 (r38) [(0, pt p 0), (1, vu (x / 256 ^ i)), (14, li 8), (15, vi i), (17, pt p 0), (25, .slice A35 ((n + i) + 1) c36)] ?_
   refine GL.r 11 2 [(0, pt p 0), (1, vu (x / 256 ^ i)), (14, li 8), (15, vi i), (25, .slice A35 ((n + i) + 1) c36), (27, pt p 0)] ?_
   obtain ⟨w40, r41, H42⟩ := H39.st (P := Try.prog) (o := 0) (ty := 38) (v := .slice A35 ((n + i) + 1) c36) 0 rfl (by kernel_rfl) (by simp) rfl
   refine GL.u 12 r41 [(0, pt p 0), (1, vu (x / 256 ^ i)), (14, li 8), (15, vi i)] ?_
   refine GL.q hK29 ?_
   refine G.region ?_
   refine GL.r 3 3 [(0, pt p 0), (1, lu (Int.fdiv ((x / 256 ^ i : Nat) : Int) (2 ^ 8))), (14, li 8), (15, vi i)] ?_
   have e43 : (Int.fdiv ((x / 256 ^ i : Nat) : Int) (2 ^ 8)) = (((x / 256 ^ i) / 256 : Nat) : Int) := n_shr _ 8
   rw [e43]
   clear e43
   refine GL.q hK27 ?_
   refine G.region ?_
   refine GL.r 2 2 [(0, pt p 0), (1, vu ((x / 256 ^ i) / 256)), (14, li 8), (15, li (IntKind.i64.wrap ((i : Int) + 1)))] ?_
   have e44 : (IntKind.i64.wrap ((i : Int) + 1)) = ((i + 1 : Nat) : Int) := by rw [in_i64 (by omega)]; omega
   rw [e44]
   clear e44
   have H45 : Hp w S [.blk p [.slice A35 ((n + i) + 1) c36] 114, .row A35 ((n + i) + 1) c36 5 1 (by8 ((bs ++ putB x i) ++ ([(UInt8.ofNat (x / 256 ^ i))] : List UInt8)))] w40 := H42.sub (List.Sublist.cons_cons _ (List.Sublist.cons_cons _ (List.Sublist.cons _ (List.Sublist.slnil))))
   have H46 : Hp w S [.blk p [.slice A35 (n + (i + 1)) c36] 114, .row A35 (n + (i + 1)) c36 5 1 (by8 (bs ++ putB x (i + 1)))] w40 := by rw [putB_snoc, ← List.append_assoc]; exact H45
   refine GL.fit (ts := [0, 1, 14, 15]) (M' := [(0, pt p 0), (1, vu ((x / 256 ^ i) / 256)), (14, li 8), (15, vi (i + 1))]) (by kernel_rfl) ?_
   refine GL.eq (M' := [(0, pt p 0), (1, vu (x / 256 ^ (i + 1))), (14, li 8), (15, vi (i + 1))]) (by rw [Nat.pow_succ, ← Nat.div_div_eq_div_mul]) ?_
   exact GL.again ⟨(i + 1), A35, c36⟩ [0, 1, 14, 15] rfl (by kernel_rfl) (by show 8 - (i + 1) < 8 - i; omega) ⟨by omega, H46⟩
theorem WBytes_calls (S : List Nat) (p : Nat) (A : Option Addr) (n c : Nat) (bs : List UInt8) (w : World) (h0 : Hp w S [.blk p [.slice A n c] 114, .row A n c 5 1 (by8 bs)] w) (hn : n ≤ 1000000) : Calls Try.prog 66 #[pt p 0] w fun e w' => ∃ B b, e = .returned (.slice B n b) ∧ Hp w S [.blk p [.slice A n c] 114, .row A n c 5 1 (by8 bs), .row B n b 5 1 (by8 bs)] w' := by
 refine calls_G (args := [pt p 0]) Try.func66 rfl Try.ntmps66 rfl ?_
 intro Q0 hRet hNor hPan
 have H := h0
 refine G.sr fun K1 hK2 => ?_
 refine GL.r 1 1 [(0, pt p 0)] ?_
 refine GL.q hK2 ?_
 refine G.seqK fun K3 hK4 => ?_
 refine G.sr fun K5 hK6 => ?_
 refine GL.r 2 2 [(0, pt p 0), (4, .bool false)] ?_
 refine GL.q hK6 ?_
 refine G.no rfl ?_
 refine G.skipK hK4 (fun _ _ h => h) ?_
 refine G.sr fun K7 hK8 => ?_
 refine GL.r 3 3 [(7, pt p 0)] ?_
 refine GL.s 4 (H.ld (o := 0) (ty := 38) (v := .slice A n c) 0 rfl (by kernel_rfl) rfl) [(8, .slice A n c)] ?_
 have hl14 := (H.rowLe 1 rfl).2.1
 rw [by8_length, Nat.mul_one] at hl14
 refine GL.call (j := 5) (Clone_calls bs A n c w (H.rdRow 1 rfl) (by omega) (by omega)) (by kernel_rfl) rfl (fun e_ w13 hR => ?_)
 obtain ⟨A9, c10, rfl, H12⟩ := hR
 have H11 : Hp w S [.blk p [.slice A n c] 114, .row A n c 5 1 (by8 bs), .row A9 n c10 5 1 (by8 bs)] w13 := H.callNew H12
 refine ⟨_, rfl, [9], [(9, .slice A9 n c10)], by kernel_rfl, ?_⟩
 refine GL.r 6 1 [(2, .slice A9 n c10)] ?_
 refine GL.q hK8 ?_
 refine G.ret fun F_ hF_ hM_ => hRet _ _ (bodyPost_1 rfl (RV.tmp rfl) ?_ F_ hF_ hM_)
 exact ⟨_, _, rfl, H11⟩
end Go.Proofs.Ytcedmbdahbdmaaa
