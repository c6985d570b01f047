/- Operations by what they come to in this world; calls by contract; regions that draw their order. Plain laws over any program. -/
import Derived.Test.YtgmggjnoegelgaaGb
import Derived.StillTail
namespace Go.Proofs.Ytgmggjnoegelgaa
open Go.RowKit

/-- What operation number i comes to, under a frame of which M is known: its computation. -/
def semAt (ops : Array Oper) (M : FM) (i : Nat) : Option (Sem Next) :=
  match ops[i]? with
  | none => none
  | some o => match gdM ops M o with
    | some true => if known M o then some (execOp (evD M) o) else none
    | _ => none
def dstAt (ops : Array Oper) (i : Nat) : Option Nat := (ops[i]?).bind (·.dst)
def vN (s : Sem Value) : Sem Next := do pure (.value (← s))
def uN (s : Sem Unit) : Sem Next := do s; pure .skip

section
variable {P : Program} {ops : Array Oper} {Q : Exit → Act → World → Prop} {i n : Nat} {M M' : FM} {w w' : World}
theorem semAt_spec {s : Sem Next} (h : semAt ops M i = some s) : ∃ o, ops[i]? = some o ∧ gdM ops M o = some true ∧ known M o = true ∧ execOp (evD M) o = s ∧ dstAt ops i = o.dst := by
  unfold semAt at h
  split at h
  · cases h
  · rename_i o ho
    split at h
    · rename_i hg
      split at h
      · rename_i hk
        injection h with h
        exact ⟨o, ho, hg, hk, h, by simp [dstAt, ho]⟩
      · cases h
    · cases h
theorem putM_bind {d : Option Nat} {v : Value} {ts : List Nat} (hp : (putM n M d v).bind (pick ts) = some M') : ∃ M1, putM n M d v = some M1 ∧ pick ts M1 = some M' := by
  cases h : putM n M d v with
  | none => rw [h] at hp; cases hp
  | some M1 => rw [h] at hp; exact ⟨M1, rfl, hp⟩
/-- One operation: it yields v in the world w'. -/
theorem GL.semN {s : Sem Next} {v : Value} (hr : s.run P w = .ok (.value v) w') (ts : List Nat) (M' : FM) (hs : semAt ops M i = some s) (hp : (putM n M (dstAt ops i) v).bind (pick ts) = some M')
    {j : Nat} (hj : i + 1 = j) (h : GL P ops Q j n M' w') : GL P ops Q i n M w := by
  subst hj
  obtain ⟨o, ho, hg, hk, he, hd⟩ := semAt_spec hs
  obtain ⟨M1, h1, h2⟩ := putM_bind hp
  rw [hd] at h1
  exact GL.step ho hg (fun F hF hM => by rw [known_exec hM hk, he]; exact hr) h1 (GL.fit h2 h)
theorem GL.sem {s : Sem Value} {v : Value} (hr : s.run P w = .ok v w') (ts : List Nat) (M' : FM) (hs : semAt ops M i = some (vN s)) (hp : (putM n M (dstAt ops i) v).bind (pick ts) = some M')
    {j : Nat} (hj : i + 1 = j) (h : GL P ops Q j n M' w') : GL P ops Q i n M w :=
  GL.semN (by simp [vN, hr]) ts M' hs hp hj h
theorem GL.semU {s : Sem Unit} (hr : s.run P w = .ok () w') (ts : List Nat) (M' : FM) (hs : semAt ops M i = some (uN s)) (hd : dstAt ops i = none) (hp : pick ts M = some M')
    {j : Nat} (hj : i + 1 = j) (h : GL P ops Q j n M' w') : GL P ops Q i n M w := by
  subst hj
  obtain ⟨o, ho, hg, hk, he, hd'⟩ := semAt_spec hs
  rw [hd] at hd'
  intro F hF hM
  rw [drop_at ho]
  refine wpList_step fun K hK => ?_
  rw [gdM_fits hM hg, if_pos rfl]
  unfold Oper.wp
  rw [known_exec hM hk, he]
  have : (uN s).run P w = .ok .skip w' := by simp [uN, hr]
  rw [this]
  show K _ _
  rw [← hd']
  exact hK _ _ (h F hF (hM.pick hp))
/-- A call of a function that has a body, by its contract. -/
theorem GL.call {f : FuncId} {args : Array Value} {R : Ending → World → Prop} (hc : Calls P f args w R) (hs : (semAt ops M i).bind (pev P) = some (.enter f args)) {j : Nat} (hj : i + 1 = j)
    (h : ∀ e w', R e w' → ∃ v, e = .returned v ∧ ∃ ts M', (putM n M (dstAt ops i) v).bind (pick ts) = some M' ∧ GL P ops Q j n M' w') : GL P ops Q i n M w := by
  subst hj
  cases hsm : semAt ops M i with
  | none => rw [hsm] at hs; cases hs
  | some s =>
    rw [hsm] at hs
    obtain ⟨o, ho, hg, hk, he, hd⟩ := semAt_spec hsm
    intro F hF hM
    rw [drop_at ho]
    refine wpList_step fun K hK => ?_
    rw [gdM_fits hM hg, if_pos rfl]
    unfold Oper.wp
    rw [known_exec hM hk, he, pev_run hs w]
    show Calls P f args w _
    refine hc.mono fun e w' hR => ?_
    obtain ⟨v, rfl, ts, M', hp, hG⟩ := h e w' hR
    obtain ⟨M1, h1, h2⟩ := putM_bind hp
    rw [hd] at h1
    have hp' := hM.put (d := o.dst) (v := v) (M' := M1) (by rw [hF]; exact h1)
    show K _ _
    rw [hp'.2.2]
    exact hK _ _ (hG _ (by rw [hp'.2.1, hF]) (hp'.1.pick h2))

/-! ### A region that draws its order, whose operations leave the class of worlds C -/
def GQ (P : Program) (ops : Array Oper) (C : World → Prop) (Qa : Act → Prop) (i n : Nat) (M : FM) : Prop :=
  ∀ F : Array Value, F.size = n → Fits F M → wpQuiet P ops C Qa (ops.toList.drop i) ⟨F, []⟩
section
variable {C : World → Prop} {Qa : Act → Prop}
theorem GQ.step {o : Oper} {v : Value} (ho : ops[i]? = some o) (hg : gdM ops M o = some true) (hy : ∀ F : Array Value, F.size = n → Fits F M → ∀ w, C w → o.quietAt P ⟨F, []⟩ C w v)
    (hp : putM n M o.dst v = some M') (h : GQ P ops C Qa (i + 1) n M') : GQ P ops C Qa i n M := by
  intro F hF hM
  rw [drop_at ho]
  refine wpQuiet_step fun K hK => ?_
  rw [gdM_fits hM hg, if_pos rfl]
  have hp' := hM.put (d := o.dst) (v := v) (M' := M') (by rw [hF]; exact hp)
  refine ⟨v, hy F hF hM, ?_⟩
  rw [hp'.2.2]
  exact hK _ (h _ (by rw [hp'.2.1, hF]) hp'.1)
theorem GQ.skip_ {o : Oper} (ho : ops[i]? = some o) (hg : gdM ops M o = some false) (hp : putM n M o.dst undef = some M') (h : GQ P ops C Qa (i + 1) n M') : GQ P ops C Qa i n M := by
  intro F hF hM
  rw [drop_at ho]
  refine wpQuiet_step fun K hK => ?_
  rw [gdM_fits hM hg]
  simp only [Bool.false_eq_true, if_false]
  have hp' := hM.put (d := o.dst) (v := undef) (M' := M') (by rw [hF]; exact hp)
  rw [hp'.2.2]
  exact hK _ (h _ (by rw [hp'.2.1, hF]) hp'.1)
theorem GQ.batch_ : ∀ {k i : Nat} {M M' : FM}, batch P ops n k i M = some M' → GQ P ops C Qa (i + k) n M' → GQ P ops C Qa i n M
  | 0, i, M, M', hb, h => by
    simp [batch] at hb
    subst hb
    exact h
  | k + 1, i, M, M', hb, h => by
    have h' : GQ P ops C Qa (i + 1 + k) n M' := by rwa [show i + 1 + k = i + (k + 1) from by omega]
    unfold batch at hb
    split at hb
    · cases hb
    · rename_i o ho
      split at hb
      · cases hb
      · rename_i hg
        split at hb
        · rename_i M1 hp
          exact GQ.skip_ ho hg hp (GQ.batch_ hb h')
        · cases hb
      · rename_i hg
        split at hb
        · rename_i hk
          split at hb
          · rename_i v hv
            split at hb
            · rename_i M1 hp
              refine GQ.step ho hg (fun F hF hM w _ => ?_) hp (GQ.batch_ hb h')
              unfold Oper.quietAt
              rw [known_exec hM hk]
              unfold opPev at hv
              split at hv
              · rename_i u hu
                injection hv with hv
                subst hv
                rw [pev_run hu w]
                exact ⟨rfl, rfl⟩
              · cases hv
            · cases hb
          · cases hb
        · cases hb
theorem GQ.fit {ts : List Nat} (hp : pick ts M = some M') (h : GQ P ops C Qa i n M') : GQ P ops C Qa i n M := fun F hF hM => h F hF (hM.pick hp)
theorem GQ.run (k : Nat) (ts : List Nat) (M' : FM) {j : Nat} (hb : (batch P ops n k i M).bind (pick ts) = some M') (hj : i + k = j) (h : GQ P ops C Qa j n M') : GQ P ops C Qa i n M := by
  subst hj
  cases hm : batch P ops n k i M with
  | none => rw [hm] at hb; cases hb
  | some M1 =>
    rw [hm] at hb
    exact GQ.batch_ hm (GQ.fit hb h)
theorem GQ.eq {M' : FM} (he : M = M') (h : GQ P ops C Qa i n M') : GQ P ops C Qa i n M := he ▸ h
theorem GQ.semN {s : Sem Next} {v : Value} (hr : ∀ w, C w → s.run P w = .ok (.value v) w) (ts : List Nat) (M' : FM) (hs : semAt ops M i = some s) (hp : (putM n M (dstAt ops i) v).bind (pick ts) = some M')
    {j : Nat} (hj : i + 1 = j) (h : GQ P ops C Qa j n M') : GQ P ops C Qa i n M := by
  subst hj
  obtain ⟨o, ho, hg, hk, he, hd⟩ := semAt_spec hs
  obtain ⟨M1, h1, h2⟩ := putM_bind hp
  rw [hd] at h1
  refine GQ.step ho hg (fun F hF hM w hw => ?_) h1 (GQ.fit h2 h)
  unfold Oper.quietAt
  rw [known_exec hM hk, he, hr w hw]
  exact ⟨rfl, rfl⟩
theorem GQ.sem {s : Sem Value} {v : Value} (hr : ∀ w, C w → s.run P w = .ok v w) (ts : List Nat) (M' : FM) (hs : semAt ops M i = some (vN s)) (hp : (putM n M (dstAt ops i) v).bind (pick ts) = some M')
    {j : Nat} (hj : i + 1 = j) (h : GQ P ops C Qa j n M') : GQ P ops C Qa i n M :=
  GQ.semN (fun w hw => by simp [vN, hr w hw]) ts M' hs hp hj h
theorem GQ.call {f : FuncId} {args : Array Value} {v : Value} (hc : ∀ w, C w → Calls P f args w fun e w' => e = .returned v ∧ C w') (ts : List Nat) (M' : FM) (hs : (semAt ops M i).bind (pev P) = some (.enter f args))
    (hp : (putM n M (dstAt ops i) v).bind (pick ts) = some M') {j : Nat} (hj : i + 1 = j) (h : GQ P ops C Qa j n M') : GQ P ops C Qa i n M := by
  subst hj
  cases hsm : semAt ops M i with
  | none => rw [hsm] at hs; cases hs
  | some s =>
    rw [hsm] at hs
    obtain ⟨o, ho, hg, hk, he, hd⟩ := semAt_spec hsm
    obtain ⟨M1, h1, h2⟩ := putM_bind hp
    rw [hd] at h1
    refine GQ.step ho hg (fun F hF hM w hw => ?_) h1 (GQ.fit h2 h)
    unfold Oper.quietAt
    rw [known_exec hM hk, he, pev_run hs w]
    exact ⟨rfl, hc w hw⟩
theorem GQ.done (hi : Nat.ble ops.size i = true) (h : ∀ F : Array Value, F.size = n → Fits F M → Qa ⟨F, []⟩) : GQ P ops C Qa i n M := by
  intro F hF hM
  rw [List.drop_eq_nil_of_le (by simpa using Nat.le_of_ble_eq_true hi)]
  exact wpQuiet_nil (h F hF hM)
theorem GQ.next {b : Code} {Q : Exit → Act → World → Prop} (hi : Nat.ble ops.size i = true) (h : ∀ w, C w → G P b Q n M w) : GQ P ops C (fun a' => ∀ w', C w' → Exit.then (fun a w => b.wp P Q a w) Q .normal a' w') i n M :=
  GQ.done hi fun F hF hM w hw => h w hw F hF hM
end
/-- A region that draws, walked once, in the order of the text: the class is 'the blocks and rows L are known'. -/
theorem G.draw {id : Nat} {w0 : World} {S : List Nat} {L : List Ent} (H : Hp w0 S L w) (hm : P.follows .mixedOrders = true) (hB : Region.lexB .any ops = true)
    (h : GQ P ops (Hp w0 S L) (fun a' => ∀ w', Hp w0 S L w' → Q .normal a' w') 0 n M) : G P (.region id ops true) Q n M w := fun F hF hM =>
  wp_region_quiet hm hB H.drew (by simpa using h F hF hM)

/-! ### A region that draws and whose last operations, from number k on, come in one order: what stands ahead of them reads alone -/
def GS (P : Program) (ops : Array Oper) (w : World) (Qa : Act → Prop) (k : Nat) (i n : Nat) (M : FM) : Prop :=
  ∀ F : Array Value, F.size = n → Fits F M → wpStill P ops w Qa ((ops.toList.take k).drop i) ⟨F, []⟩
section
variable {Qa : Act → Prop} {k : Nat}
theorem take_at {o : Oper} (ho : ops[i]? = some o) (hk : Nat.blt i k = true) : (ops.toList.take k).drop i = o :: (ops.toList.take k).drop (i + 1) := by
  have hlt : i < k := by simpa [Nat.blt_eq] using hk
  have h : (ops.toList.take k)[i]? = some o := by
    rw [List.getElem?_take_of_lt hlt]
    simpa using ho
  have hl : i < (ops.toList.take k).length := (List.getElem?_eq_some_iff.1 h).1
  rw [List.drop_eq_getElem_cons hl]
  congr 1
  exact (List.getElem?_eq_some_iff.1 h).2
theorem GS.step {o : Oper} {v : Value} (ho : ops[i]? = some o) (hk : Nat.blt i k = true) (hg : gdM ops M o = some true) (hy : ∀ F : Array Value, F.size = n → Fits F M → (execOp (⟨F, []⟩ : Act).eval o).run P w = .ok (.value v) w)
    (hp : putM n M o.dst v = some M') (h : GS P ops w Qa k (i + 1) n M') : GS P ops w Qa k i n M := by
  intro F hF hM
  rw [take_at ho hk]
  refine wpStill_step fun K hK => ?_
  rw [gdM_fits hM hg, if_pos rfl]
  have hp' := hM.put (d := o.dst) (v := v) (M' := M') (by rw [hF]; exact hp)
  unfold Oper.still
  rw [hy F hF hM]
  refine ⟨rfl, ?_⟩
  rw [hp'.2.2]
  exact hK _ (h _ (by rw [hp'.2.1, hF]) hp'.1)
theorem GS.skip_ {o : Oper} (ho : ops[i]? = some o) (hk : Nat.blt i k = true) (hg : gdM ops M o = some false) (hp : putM n M o.dst undef = some M') (h : GS P ops w Qa k (i + 1) n M') : GS P ops w Qa k i n M := by
  intro F hF hM
  rw [take_at ho hk]
  refine wpStill_step fun K hK => ?_
  rw [gdM_fits hM hg]
  simp only [Bool.false_eq_true, if_false]
  have hp' := hM.put (d := o.dst) (v := undef) (M' := M') (by rw [hF]; exact hp)
  rw [hp'.2.2]
  exact hK _ (h _ (by rw [hp'.2.1, hF]) hp'.1)
theorem GS.batch_ : ∀ {m i : Nat} {M M' : FM}, batch P ops n m i M = some M' → i + m ≤ k → GS P ops w Qa k (i + m) n M' → GS P ops w Qa k i n M
  | 0, i, M, M', hb, _, h => by
    simp [batch] at hb
    subst hb
    exact h
  | m + 1, i, M, M', hb, hk, h => by
    have h' : GS P ops w Qa k (i + 1 + m) n M' := by rwa [show i + 1 + m = i + (m + 1) from by omega]
    have hik : Nat.blt i k = true := by simp [Nat.blt_eq]; omega
    unfold batch at hb
    split at hb
    · cases hb
    · rename_i o ho
      split at hb
      · cases hb
      · rename_i hg
        split at hb
        · rename_i M1 hp
          exact GS.skip_ ho hik hg hp (GS.batch_ hb (by omega) h')
        · cases hb
      · rename_i hg
        split at hb
        · rename_i hkn
          split at hb
          · rename_i v hv
            split at hb
            · rename_i M1 hp
              refine GS.step ho hik hg (fun F hF hM => ?_) hp (GS.batch_ hb (by omega) h')
              rw [known_exec hM hkn]
              unfold opPev at hv
              split at hv
              · rename_i u hu
                injection hv with hv
                subst hv
                exact pev_run hu w
              · cases hv
            · cases hb
          · cases hb
        · cases hb
theorem GS.fit {ts : List Nat} (hp : pick ts M = some M') (h : GS P ops w Qa k i n M') : GS P ops w Qa k i n M := fun F hF hM => h F hF (hM.pick hp)
theorem GS.run (m : Nat) (ts : List Nat) (M' : FM) {j : Nat} (hb : (batch P ops n m i M).bind (pick ts) = some M') (hj : i + m = j) (hk : Nat.ble j k = true) (h : GS P ops w Qa k j n M') : GS P ops w Qa k i n M := by
  subst hj
  cases hm : batch P ops n m i M with
  | none => rw [hm] at hb; cases hb
  | some M1 =>
    rw [hm] at hb
    exact GS.batch_ hm (Nat.le_of_ble_eq_true hk) (GS.fit hb h)
theorem GS.eq {M' : FM} (he : M = M') (h : GS P ops w Qa k i n M') : GS P ops w Qa k i n M := he ▸ h
theorem GS.semN {s : Sem Next} {v : Value} (hr : s.run P w = .ok (.value v) w) (ts : List Nat) (M' : FM) (hs : semAt ops M i = some s) (hp : (putM n M (dstAt ops i) v).bind (pick ts) = some M')
    {j : Nat} (hj : i + 1 = j) (hk : Nat.ble j k = true) (h : GS P ops w Qa k j n M') : GS P ops w Qa k i n M := by
  subst hj
  obtain ⟨o, ho, hg, hkn, he, hd⟩ := semAt_spec hs
  obtain ⟨M1, h1, h2⟩ := putM_bind hp
  rw [hd] at h1
  have hlt := Nat.le_of_ble_eq_true hk
  exact GS.step ho (by simp [Nat.blt_eq]; omega) hg (fun F hF hM => by rw [known_exec hM hkn, he]; exact hr) h1 (GS.fit h2 h)
theorem GS.sem {s : Sem Value} {v : Value} (hr : s.run P w = .ok v w) (ts : List Nat) (M' : FM) (hs : semAt ops M i = some (vN s)) (hp : (putM n M (dstAt ops i) v).bind (pick ts) = some M')
    {j : Nat} (hj : i + 1 = j) (hk : Nat.ble j k = true) (h : GS P ops w Qa k j n M') : GS P ops w Qa k i n M :=
  GS.semN (by simp [vN, hr]) ts M' hs hp hj hk h
/-- The head is done: the tail goes on as a plain region does. -/
theorem GS.tail (hi : i = k) (h : GL P ops Q k n M w) : GS P ops w (fun a' => wpList P ops Q (ops.toList.drop k) a' w) k i n M := by
  subst hi
  intro F hF hM
  have : (ops.toList.take i).drop i = [] := List.drop_eq_nil_of_le (by simp; omega)
  rw [this]
  exact wpStill_nil (h F hF hM)
end
theorem G.tail {id : Nat} (k : Nat) (hm : P.follows .mixedOrders = true) (hB : Region.lexTailB .any ops k = true)
    (h : GS P ops { w with drawn := w.drawn + 1 } (fun a' => wpList P ops Q (ops.toList.drop k) a' { w with drawn := w.drawn + 1 }) k 0 n M) : G P (.region id ops true) Q n M w := fun F hF hM => by
  have := wp_region_still_tail (P := P) (Q := Q) (id := id) (l := ops.toList) k hm (by simpa using hB) (by simpa using h F hF hM)
  simpa using this
end
end Go.Proofs.Ytgmggjnoegelgaa
