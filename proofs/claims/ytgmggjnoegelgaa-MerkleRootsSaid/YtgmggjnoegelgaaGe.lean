/- A region that draws its order: operations taken one by one in the order of the text, what they read being held by a class of worlds S; a writing one where nothing else may come up. Plain laws over any program. -/
import Derived.Test.YtgmggjnoegelgaaGd
import Derived.OrdersHeld
namespace Go.Proofs.Ytgmggjnoegelgaa
open Go.RowKit

def lst (N : Nat) : Nat → Array Bool
  | 0 => Array.replicate N false
  | i + 1 => (lst N i).setIfInBounds i true
/-- Operations 0 to i - 1 have come up. -/
def GH (P : Program) (ops : Array Oper) (Q : Exit → Act → World → Prop) (S : World → Prop) (i n : Nat) (M : FM) (w : World) : Prop :=
  ∀ F : Array Value, F.size = n → Fits F M → ∀ fuel, fuel + i = ops.size → Region.lexFrom .any ops fuel i (lst ops.size i) = true → Region.noSelect ops = true →
    (∀ c (a : Act) d v w, Q (.panic c) (a.put d v) w → Q (.panic c) a w) → wpAnyH P .any ops Q S fuel (lst ops.size i) ⟨F, []⟩ w
section
variable {P : Program} {ops : Array Oper} {Q : Exit → Act → World → Prop} {S : World → Prop} {i n : Nat} {M M' : FM} {w w' : World}
theorem ops_lt {o : Oper} (ho : ops[i]? = some o) : i < ops.size := (Array.getElem?_eq_some_iff.1 ho).1
theorem GH.take {o : Oper} {v : Value} (hS : S w) (ho : ops[i]? = some o) (hy : ∀ F : Array Value, F.size = n → Fits F M → YieldsIf P ops S o v ⟨F, []⟩) (hp : putM n M o.dst v = some M')
    (h : GH P ops Q S (i + 1) n M' w) : GH P ops Q S i n M w := by
  intro F hF hM fuel hfuel hlex hsel hQ
  cases fuel with
  | zero => have := ops_lt ho; omega
  | succ fuel =>
    simp only [Region.lexFrom, Bool.and_eq_true] at hlex
    obtain ⟨⟨hr, hf⟩, hlex⟩ := hlex
    have hp' := hM.put (d := o.dst) (v := v) (M' := M') (by rw [hF]; exact hp)
    refine wpAnyH_take ho hsel hf hr (fun c a w h => hQ c a _ _ w h) (hy F hF hM) hS ?_
    rw [hp'.2.2]
    exact h _ (by rw [hp'.2.1, hF]) hp'.1 fuel (by omega) hlex hsel hQ
theorem GH.batch_ (hS : S w) : ∀ {k i : Nat} {M M' : FM}, batch P ops n k i M = some M' → GH P ops Q S (i + k) n M' w → GH P ops Q S i n M w
  | 0, i, M, M', hb, h => by
    simp [batch] at hb
    subst hb
    exact h
  | k + 1, i, M, M', hb, h => by
    have h' : GH P ops Q S (i + 1 + k) n M' w := by rwa [show i + 1 + k = i + (k + 1) from by omega]
    unfold batch at hb
    split at hb
    · cases hb
    · rename_i o ho
      split at hb
      · cases hb
      · rename_i hg
        split at hb
        · rename_i M1 hp
          exact GH.take hS ho (fun F hF hM => .inr ⟨gdM_fits hM hg, rfl⟩) hp (GH.batch_ hS hb h')
        · cases hb
      · rename_i hg
        split at hb
        · rename_i hk
          split at hb
          · rename_i v hv
            split at hb
            · rename_i M1 hp
              refine GH.take hS ho (fun F hF hM => .inl ⟨gdM_fits hM hg, fun w _ => ?_⟩) hp (GH.batch_ hS hb h')
              rw [known_exec hM hk]
              unfold opPev at hv
              split at hv
              · rename_i u hu
                injection hv with hv
                subst hv
                exact pev_run hu w
              · cases hv
            · cases hb
          · cases hb
        · cases hb
theorem GH.fit {ts : List Nat} (hp : pick ts M = some M') (h : GH P ops Q S i n M' w) : GH P ops Q S i n M w := fun F hF hM => h F hF (hM.pick hp)
theorem GH.run (k : Nat) (ts : List Nat) (M' : FM) {j : Nat} (hb : (batch P ops n k i M).bind (pick ts) = some M') (hj : i + k = j) (hS : S w) (h : GH P ops Q S j n M' w) : GH P ops Q S i n M w := by
  subst hj
  cases hm : batch P ops n k i M with
  | none => rw [hm] at hb; cases hb
  | some M1 =>
    rw [hm] at hb
    exact GH.batch_ hS hm (GH.fit hb h)
theorem GH.eq {M' : FM} (he : M = M') (h : GH P ops Q S i n M' w) : GH P ops Q S i n M w := he ▸ h
theorem GH.semN {s : Sem Next} {v : Value} (hr : ∀ w, S w → s.run P w = .ok (.value v) w) (ts : List Nat) (M' : FM) (hs : semAt ops M i = some s) (hp : (putM n M (dstAt ops i) v).bind (pick ts) = some M')
    {j : Nat} (hj : i + 1 = j) (hS : S w) (h : GH P ops Q S j n M' w) : GH P ops Q S i n M w := by
  subst hj
  obtain ⟨o, ho, hg, hk, he, hd⟩ := semAt_spec hs
  obtain ⟨M1, h1, h2⟩ := putM_bind hp
  rw [hd] at h1
  exact GH.take hS ho (fun F hF hM => .inl ⟨gdM_fits hM hg, fun w hw => by rw [known_exec hM hk, he]; exact hr w hw⟩) h1 (GH.fit h2 h)
theorem GH.sem {s : Sem Value} {v : Value} (hr : ∀ w, S w → s.run P w = .ok v w) (ts : List Nat) (M' : FM) (hs : semAt ops M i = some (vN s)) (hp : (putM n M (dstAt ops i) v).bind (pick ts) = some M')
    {j : Nat} (hj : i + 1 = j) (hS : S w) (h : GH P ops Q S j n M' w) : GH P ops Q S i n M w :=
  GH.semN (fun w hw => by simp [vN, hr w hw]) ts M' hs hp hj hS h
/-- A store: nothing else may come up. -/
theorem GH.semU {s : Sem Unit} (hr : s.run P w = .ok () w') (ts : List Nat) (M' : FM) (hs : semAt ops M i = some (uN s)) (hd : dstAt ops i = none) (hp : pick ts M = some M')
    {j : Nat} (hj : i + 1 = j) (hone : Region.ready .any ops (lst ops.size i) = [i]) (hS : S w') (h : GH P ops Q S j n M' w') : GH P ops Q S i n M w := by
  subst hj
  obtain ⟨o, ho, hg, hk, he, hd'⟩ := semAt_spec hs
  rw [hd] at hd'
  intro F hF hM fuel hfuel hlex hsel hQ
  cases fuel with
  | zero => have := ops_lt ho; omega
  | succ fuel =>
    simp only [Region.lexFrom, Bool.and_eq_true] at hlex
    refine wpAnyH_all hone (by simp) fun k hk' => ?_
    simp at hk'
    subst hk'
    unfold wpOp
    simp only [ho]
    rw [gdM_fits hM hg, if_pos rfl]
    refine .inl ?_
    unfold Oper.wp
    rw [known_exec hM hk, he]
    have : (uN s).run P w = .ok .skip w' := by simp [uN, hr]
    rw [this]
    show S w' ∧ _
    rw [← hd']
    exact ⟨hS, h F hF (hM.pick hp) fuel (by omega) hlex.2 hsel hQ⟩
/-- A call, or whatever makes memory: nothing else may come up. -/
theorem GH.call {f : FuncId} {args : Array Value} {R : Ending → World → Prop} (hc : Calls P f args w R) (hs : (semAt ops M i).bind (pev P) = some (.enter f args)) {j : Nat} (hj : i + 1 = j)
    (hone : Region.ready .any ops (lst ops.size i) = [i])
    (h : ∀ e w', R e w' → ∃ v, e = .returned v ∧ S w' ∧ ∃ ts M', (putM n M (dstAt ops i) v).bind (pick ts) = some M' ∧ GH P ops Q S j n M' w') : GH P ops Q S i n M w := by
  subst hj
  cases hsm : semAt ops M i with
  | none => rw [hsm] at hs; cases hs
  | some s =>
    rw [hsm] at hs
    obtain ⟨o, ho, hg, hk, he, hd⟩ := semAt_spec hsm
    intro F hF hM fuel hfuel hlex hsel hQ
    cases fuel with
    | zero => have := ops_lt ho; omega
    | succ fuel =>
      simp only [Region.lexFrom, Bool.and_eq_true] at hlex
      refine wpAnyH_all hone (by simp) fun k hk' => ?_
      simp at hk'
      subst hk'
      unfold wpOp
      simp only [ho]
      rw [gdM_fits hM hg, if_pos rfl]
      refine .inl ?_
      unfold Oper.wp
      rw [known_exec hM hk, he, pev_run hs w]
      show Calls P f args w _
      refine hc.mono fun e w' hR => ?_
      obtain ⟨v, rfl, hS, ts, M', hp, hG⟩ := h e w' hR
      obtain ⟨M1, h1, h2⟩ := putM_bind hp
      rw [hd] at h1
      have hp' := hM.put (d := o.dst) (v := v) (M' := M1) (by rw [hF]; exact h1)
      show S w' ∧ _
      rw [hp'.2.2]
      exact ⟨hS, hG _ (by rw [hp'.2.1, hF]) (hp'.1.pick h2) fuel (by omega) hlex.2 hsel hQ⟩
theorem GH.made {s : Sem Value} {v : Value} (hr : s.run P w = .ok v w') (ts : List Nat) (M' : FM) (hs : semAt ops M i = some (vN s)) (hp : (putM n M (dstAt ops i) v).bind (pick ts) = some M')
    {j : Nat} (hj : i + 1 = j) (hone : Region.ready .any ops (lst ops.size i) = [i]) (hS : S w') (h : GH P ops Q S j n M' w') : GH P ops Q S i n M w := by
  subst hj
  obtain ⟨o, ho, hg, hk, he, hd⟩ := semAt_spec hs
  obtain ⟨M1, h1, h2⟩ := putM_bind hp
  rw [hd] at h1
  intro F hF hM fuel hfuel hlex hsel hQ
  cases fuel with
  | zero => have := ops_lt ho; omega
  | succ fuel =>
    simp only [Region.lexFrom, Bool.and_eq_true] at hlex
    refine wpAnyH_all hone (by simp) fun k hk' => ?_
    simp at hk'
    subst hk'
    unfold wpOp
    simp only [ho]
    rw [gdM_fits hM hg, if_pos rfl]
    refine .inl ?_
    unfold Oper.wp
    rw [known_exec hM hk, he]
    have : (vN s).run P w = .ok (.value v) w' := by simp [vN, hr]
    rw [this]
    have hp' := hM.put (d := o.dst) (v := v) (M' := M1) (by rw [hF]; exact h1)
    show S w' ∧ _
    rw [hp'.2.2]
    exact ⟨hS, h _ (by rw [hp'.2.1, hF]) (hp'.1.pick h2) fuel (by omega) hlex.2 hsel hQ⟩
theorem GH.done (hi : i = ops.size) (h : ∀ F : Array Value, F.size = n → Fits F M → Q .normal ⟨F, []⟩ w) : GH P ops Q S i n M w := by
  intro F hF hM fuel hfuel hlex _ _
  have h0 : fuel = 0 := by omega
  subst h0
  exact ⟨by simpa [Region.lexFrom] using hlex, h F hF hM⟩
theorem GH.k {Q' : Exit → Act → World → Prop} {K : Act → World → Prop} {b : Code} (hi : i = ops.size) (hK : ∀ a w, b.wp P Q' a w → K a w) (hq : ∀ a w, K a w → Q .normal a w)
    (h : G P b Q' n M w) : GH P ops Q S i n M w := GH.done hi fun F hF hM => hq _ _ (hK _ _ (h F hF hM))
theorem G.held {id : Nat} (S : World → Prop) (hm : P.follows .mixedOrders = true) (hB : Region.lexB .any ops = true) (hQ : ∀ c (a : Act) d v w, Q (.panic c) (a.put d v) w → Q (.panic c) a w)
    (h : GH P ops Q S 0 n M { w with drawn := w.drawn + 1 }) : G P (.region id ops true) Q n M w := fun F hF hM => by
  simp only [Region.lexB, Bool.and_eq_true] at hB
  exact wp_region_held (S := S) hm (h F hF hM ops.size (by omega) hB.2 hB.1 hQ)
/-- The class 'these blocks are known'. -/
def Holds (L : List Ent) (w : World) : Prop := ∀ e, e ∈ L → e.holds w
theorem Hp.holds {w0 : World} {S0 : List Nat} {L L' : List Ent} (H : Hp w0 S0 L w) (h : ∀ e, e ∈ L' → e ∈ L) : Holds L' w := fun e he => H.ents e (h e he)
theorem Holds.ld {L : List Ent} (H : Holds L w) (i : Nat) {b o : Nat} {cs : List Value} {t ty : TypeId} {v : Value} (hL : L[i]? = some (.blk b cs t)) (hs : scal P ty = true) (hv : cs[o]? = some v) :
    (Instr.loadAt ty (.pointer (some ⟨b, o, none⟩))).run P w = .ok v w := run_ld1 hs (by rw [Blk.cell (t := t) (H _ (List.mem_of_getElem? hL))]; exact hv)
theorem Holds.ldA {L : List Ent} (H : Holds L w) (i : Nat) {b o : Nat} {cs sub : List Value} {t ty m : TypeId} (hL : L[i]? = some (.blk b cs t)) (hs : aggSz P ty = some m) (hsub : (cs.drop o).take m = sub) (hl : sub.length = m) :
    (Instr.loadAt ty (.pointer (some ⟨b, o, none⟩))).run P w = .ok (.agg sub.toArray) w := run_ldA hs (H _ (List.mem_of_getElem? hL)) hsub hl
end
end Go.Proofs.Ytgmggjnoegelgaa
