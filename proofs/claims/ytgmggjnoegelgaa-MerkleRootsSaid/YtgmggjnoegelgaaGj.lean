/- A region that draws its order: operations taken in an order of our own, what they read being held by a class of worlds, which may narrow; a writing one where nothing else may come up. Plain laws over any program. -/
import Derived.Test.YtgmggjnoegelgaaGe
import Derived.Test.YtgmggjnoegelgaaGi
namespace Go.Proofs.Ytgmggjnoegelgaa
open Go.RowKit

section
variable {P : Program} {ops : Array Oper} {Q : Exit → Act → World → Prop} {S S' : World → Prop} {i n : Nat} {M M' : FM} {w w' : World} {done : List Nat}
theorem wpAnyH_weak {md : Region.Mode} (hs : ∀ w, S' w → S w) : ∀ (fuel : Nat) (listed : Array Bool) (a : Act) (w : World), wpAnyH P md ops Q S' fuel listed a w → wpAnyH P md ops Q S fuel listed a w
  | 0, _, _, _, h => h
  | fuel + 1, _, _, _, h => ⟨h.1, fun i hi => wpOp_mono (fun a' w' h' => ⟨hs _ h'.1, wpAnyH_weak hs fuel _ a' w' h'.2⟩) (h.2 i hi)⟩
def lsD (N : Nat) (done : List Nat) : Array Bool := done.foldl (fun a i => a.setIfInBounds i true) (Array.replicate N false)
theorem lsD_snoc (N : Nat) (done : List Nat) (i : Nat) : lsD N (done ++ [i]) = (lsD N done).setIfInBounds i true := by simp [lsD]
/-- Operation i may be taken. -/
def may (ops : Array Oper) (done : List Nat) (i : Nat) : Bool := (Region.ready .any ops (lsD ops.size done)).contains i && Region.free .any ops (lsD ops.size done) i
/-- The operations 'done' have come up. -/
def GP (P : Program) (ops : Array Oper) (Q : Exit → Act → World → Prop) (S : World → Prop) (done : List Nat) (n : Nat) (M : FM) (w : World) : Prop :=
  ∀ F : Array Value, F.size = n → Fits F M → Region.noSelect ops = true → (∀ c (a : Act) d v w, Q (.panic c) (a.put d v) w → Q (.panic c) a w) →
    ∀ fuel, wpAnyH P .any ops Q S (fuel + (ops.size - done.length)) (lsD ops.size done) ⟨F, []⟩ w
theorem GP.take {o : Oper} {v : Value} (hS : S w) (ho : ops[i]? = some o) (hm : may ops done i = true) (hl : done.length < ops.size) (hy : ∀ F : Array Value, F.size = n → Fits F M → YieldsIf P ops S o v ⟨F, []⟩) (hp : putM n M o.dst v = some M')
    (h : GP P ops Q S (done ++ [i]) n M' w) : GP P ops Q S done n M w := by
  intro F hF hM hsel hQ fuel
  simp only [may, Bool.and_eq_true] at hm
  have hp' := hM.put (d := o.dst) (v := v) (M' := M') (by rw [hF]; exact hp)
  have e : fuel + (ops.size - done.length) = (fuel + (ops.size - (done ++ [i]).length)) + 1 := by simp; omega
  rw [e]
  refine wpAnyH_take ho hsel hm.2 hm.1 (fun c a w h => hQ c a _ _ w h) (hy F hF hM) hS ?_
  rw [hp'.2.2, ← lsD_snoc]
  exact h _ (by rw [hp'.2.1, hF]) hp'.1 hsel hQ fuel
/-- Plain operations, one behind the other. -/
def batchP (P : Program) (ops : Array Oper) (n : Nat) : List Nat → List Nat → FM → Option FM
  | _, [], M => some M
  | done, i :: r, M =>
    match ops[i]? with
    | none => none
    | some o => if may ops done i && Nat.blt done.length ops.size then
        match gdM ops M o with
        | none => none
        | some false => match putM n M o.dst undef with
          | some M1 => batchP P ops n (done ++ [i]) r M1
          | none => none
        | some true => if known M o then match opPev P M o with
            | some v => match putM n M o.dst v with
              | some M1 => batchP P ops n (done ++ [i]) r M1
              | none => none
            | none => none
          else none
      else none
theorem GP.batch_ (hS : S w) : ∀ {r done : List Nat} {M M' : FM}, batchP P ops n done r M = some M' → GP P ops Q S (done ++ r) n M' w → GP P ops Q S done n M w
  | [], done, M, M', hb, h => by
    simp [batchP] at hb
    subst hb
    simpa using h
  | i :: r, done, M, M', hb, h => by
    have h' : GP P ops Q S ((done ++ [i]) ++ r) n M' w := by rwa [List.append_assoc]
    unfold batchP at hb
    split at hb
    · cases hb
    · rename_i o ho
      split at hb
      · rename_i hc
        simp only [Bool.and_eq_true] at hc
        have hl : done.length < ops.size := by simpa [Nat.blt_eq] using hc.2
        split at hb
        · cases hb
        · rename_i hg
          split at hb
          · rename_i M1 hp
            exact GP.take hS ho hc.1 hl (fun F hF hM => .inr ⟨gdM_fits hM hg, rfl⟩) hp (GP.batch_ hS hb h')
          · cases hb
        · rename_i hg
          split at hb
          · rename_i hk
            split at hb
            · rename_i v hv
              split at hb
              · rename_i M1 hp
                refine GP.take hS ho hc.1 hl (fun F hF hM => .inl ⟨gdM_fits hM hg, fun w _ => ?_⟩) hp (GP.batch_ hS hb h')
                rw [known_exec hM hk]
                unfold opPev at hv
                split at hv
                · rename_i u hu
                  injection hv with hv
                  subst hv
                  exact pev_run hu w
                · cases hv
              · cases hb
            · cases hb
          · cases hb
      · cases hb
theorem GP.fit {ts : List Nat} (hp : pick ts M = some M') (h : GP P ops Q S done n M' w) : GP P ops Q S done n M w := fun F hF hM => h F hF (hM.pick hp)
theorem GP.run (r : List Nat) (ts : List Nat) (M' : FM) (done' : List Nat) (hb : (batchP P ops n done r M).bind (pick ts) = some M') (hj : done ++ r = done') (hS : S w) (h : GP P ops Q S done' n M' w) : GP P ops Q S done n M w := by
  subst hj
  cases hm : batchP P ops n done r M with
  | none => rw [hm] at hb; cases hb
  | some M1 =>
    rw [hm] at hb
    exact GP.batch_ hS hm (GP.fit hb h)
theorem GP.eq {M' : FM} (he : M = M') (h : GP P ops Q S done n M' w) : GP P ops Q S done n M w := he ▸ h
theorem GP.weak (S' : World → Prop) (hs : ∀ w, S' w → S w) (h : GP P ops Q S' done n M w) : GP P ops Q S done n M w := fun F hF hM hsel hQ fuel => wpAnyH_weak hs _ _ _ _ (h F hF hM hsel hQ fuel)
/-- Operation i, of those that may come up, and there is one more to come. -/
def mayB (ops : Array Oper) (done : List Nat) (i : Nat) : Bool := may ops done i && Nat.blt done.length ops.size
theorem GP.semN {s : Sem Next} {v : Value} (i : Nat) (hr : ∀ w, S w → s.run P w = .ok (.value v) w) (ts : List Nat) (M' : FM) (hs : semAt ops M i = some s) (hp : (putM n M (dstAt ops i) v).bind (pick ts) = some M')
    (hm : mayB ops done i = true) (hS : S w) (h : GP P ops Q S (done ++ [i]) n M' w) : GP P ops Q S done n M w := by
  simp only [mayB, Bool.and_eq_true] at hm
  obtain ⟨o, ho, hg, hk, he, hd⟩ := semAt_spec hs
  obtain ⟨M1, h1, h2⟩ := putM_bind hp
  rw [hd] at h1
  exact GP.take hS ho hm.1 (by simpa [Nat.blt_eq] using hm.2) (fun F hF hM => .inl ⟨gdM_fits hM hg, fun w hw => by rw [known_exec hM hk, he]; exact hr w hw⟩) h1 (GP.fit h2 h)
theorem GP.sem {s : Sem Value} {v : Value} (i : Nat) (hr : ∀ w, S w → s.run P w = .ok v w) (ts : List Nat) (M' : FM) (hs : semAt ops M i = some (vN s)) (hp : (putM n M (dstAt ops i) v).bind (pick ts) = some M')
    (hm : mayB ops done i = true) (hS : S w) (h : GP P ops Q S (done ++ [i]) n M' w) : GP P ops Q S done n M w :=
  GP.semN i (fun w hw => by simp [vN, hr w hw]) ts M' hs hp hm hS h
/-- Nothing else than i may come up. -/
def oneB (ops : Array Oper) (done : List Nat) (i : Nat) : Bool := decide (Region.ready .any ops (lsD ops.size done) = [i]) && Nat.blt done.length ops.size
theorem GP.all {o : Oper} (i : Nat) (hone : oneB ops done i = true) (ho : ops[i]? = some o) (hg : gdM ops M o = some true)
    (h : ∀ F : Array Value, F.size = n → Fits F M → Region.noSelect ops = true → (∀ c (a : Act) d v w, Q (.panic c) (a.put d v) w → Q (.panic c) a w) → ∀ fuel,
      Oper.wp P o ⟨F, []⟩ w (fun a' w' => S w' ∧ wpAnyH P .any ops Q S (fuel + (ops.size - (done ++ [i]).length)) (lsD ops.size (done ++ [i])) a' w') Q) : GP P ops Q S done n M w := by
  intro F hF hM hsel hQ fuel
  simp only [oneB, Bool.and_eq_true, decide_eq_true_eq] at hone
  have hl : done.length < ops.size := by simpa [Nat.blt_eq] using hone.2
  have e : fuel + (ops.size - done.length) = (fuel + (ops.size - (done ++ [i]).length)) + 1 := by simp; omega
  rw [e]
  refine wpAnyH_all hone.1 (by simp) fun k hk => ?_
  simp at hk
  subst hk
  unfold wpOp
  simp only [ho]
  rw [gdM_fits hM hg, if_pos rfl, ← lsD_snoc]
  exact .inl (h F hF hM hsel hQ fuel)
theorem GP.semU {s : Sem Unit} (i : Nat) (hr : s.run P w = .ok () w') (ts : List Nat) (M' : FM) (hs : semAt ops M i = some (uN s)) (hd : dstAt ops i = none) (hp : pick ts M = some M')
    (hone : oneB ops done i = true) (hS : S w') (h : GP P ops Q S (done ++ [i]) n M' w') : GP P ops Q S done n M w := by
  obtain ⟨o, ho, hg, hk, he, hd'⟩ := semAt_spec hs
  rw [hd] at hd'
  refine GP.all i hone ho hg fun F hF hM hsel hQ fuel => ?_
  unfold Oper.wp
  rw [known_exec hM hk, he]
  have : (uN s).run P w = .ok .skip w' := by simp [uN, hr]
  rw [this]
  show S w' ∧ _
  rw [← hd']
  exact ⟨hS, h F hF (hM.pick hp) hsel hQ fuel⟩
theorem GP.made {s : Sem Value} {v : Value} (i : Nat) (hr : s.run P w = .ok v w') (ts : List Nat) (M' : FM) (hs : semAt ops M i = some (vN s)) (hp : (putM n M (dstAt ops i) v).bind (pick ts) = some M')
    (hone : oneB ops done i = true) (hS : S w') (h : GP P ops Q S (done ++ [i]) n M' w') : GP P ops Q S done n M w := by
  obtain ⟨o, ho, hg, hk, he, hd⟩ := semAt_spec hs
  obtain ⟨M1, h1, h2⟩ := putM_bind hp
  rw [hd] at h1
  refine GP.all i hone ho hg fun F hF hM hsel hQ fuel => ?_
  unfold Oper.wp
  rw [known_exec hM hk, he]
  have : (vN s).run P w = .ok (.value v) w' := by simp [vN, hr]
  rw [this]
  have hp' := hM.put (d := o.dst) (v := v) (M' := M1) (by rw [hF]; exact h1)
  show S w' ∧ _
  rw [hp'.2.2]
  exact ⟨hS, h _ (by rw [hp'.2.1, hF]) (hp'.1.pick h2) hsel hQ fuel⟩
theorem GP.call {f : FuncId} {args : Array Value} {R : Ending → World → Prop} (i : Nat) (hc : Calls P f args w R) (hs : (semAt ops M i).bind (pev P) = some (.enter f args)) (hone : oneB ops done i = true)
    (h : ∀ e w', R e w' → ∃ v, e = .returned v ∧ S w' ∧ ∃ ts M', (putM n M (dstAt ops i) v).bind (pick ts) = some M' ∧ GP P ops Q S (done ++ [i]) n M' w') : GP P ops Q S done n M w := by
  cases hsm : semAt ops M i with
  | none => rw [hsm] at hs; cases hs
  | some s =>
    rw [hsm] at hs
    obtain ⟨o, ho, hg, hk, he, hd⟩ := semAt_spec hsm
    refine GP.all i hone ho hg fun F hF hM hsel hQ fuel => ?_
    unfold Oper.wp
    rw [known_exec hM hk, he, pev_run hs w]
    show Calls P f args w _
    refine hc.mono fun e w' hR => ?_
    obtain ⟨v, rfl, hS, ts, M', hp, hG⟩ := h e w' hR
    obtain ⟨M1, h1, h2⟩ := putM_bind hp
    rw [hd] at h1
    have hp' := hM.put (d := o.dst) (v := v) (M' := M1) (by rw [hF]; exact h1)
    show S w' ∧ _
    rw [hp'.2.2]
    exact ⟨hS, hG _ (by rw [hp'.2.1, hF]) (hp'.1.pick h2) hsel hQ fuel⟩
theorem GP.fin (hi : Region.ready .any ops (lsD ops.size done) = []) (h : ∀ F : Array Value, F.size = n → Fits F M → Q .normal ⟨F, []⟩ w) : GP P ops Q S done n M w :=
  fun F hF hM _ _ fuel => wpAnyH_done hi (h F hF hM) _
theorem GP.k {Q' : Exit → Act → World → Prop} {K : Act → World → Prop} {b : Code} (hi : Region.ready .any ops (lsD ops.size done) = []) (hK : ∀ a w, b.wp P Q' a w → K a w) (hq : ∀ a w, K a w → Q .normal a w)
    (h : G P b Q' n M w) : GP P ops Q S done n M w := GP.fin hi fun F hF hM => hq _ _ (hK _ _ (h F hF hM))
theorem G.heldP {id : Nat} (S : World → Prop) (hm : P.follows .mixedOrders = true) (hB : Region.noSelect ops = true) (hQ : ∀ c (a : Act) d v w, Q (.panic c) (a.put d v) w → Q (.panic c) a w)
    (h : GP P ops Q S [] n M { w with drawn := w.drawn + 1 }) : G P (.region id ops true) Q n M w := fun F hF hM =>
  wp_region_held (S := S) hm (by simpa [lsD] using h F hF hM hB hQ 0)
/-- What is held: memory that stood when the call began, and these blocks and rows. -/
def Hd (w0 : World) (L : List Ent) (w : World) : Prop := Below w0.heap.size w0 w ∧ Holds L w
theorem Hp.hd {w0 : World} {L L' : List Ent} (H : Hp w0 [] L w) (h : ∀ e, e ∈ L' → e ∈ L) : Hd w0 L' w := ⟨H.below, H.holds h⟩
theorem Hd.hp {w0 : World} {L : List Ent} (h : Hd w0 L w) {A : Option Addr} {xs : List Value} (hr : RdS w0 A xs) : RdS w A xs := hr.below h.1
theorem Hd.weak {w0 : World} {L L' : List Ent} (h : ∀ e, e ∈ L → e ∈ L') : ∀ w, Hd w0 L' w → Hd w0 L w := fun _ hw => ⟨hw.1, fun e he => hw.2 e (h e he)⟩
theorem Hd.ld {w0 : World} {L : List Ent} (H : Hd w0 L w) (i : Nat) {b o : Nat} {cs : List Value} {t ty : TypeId} {v : Value} (hL : L[i]? = some (.blk b cs t)) (hs : scal P ty = true) (hv : cs[o]? = some v) :
    (Instr.loadAt ty (.pointer (some ⟨b, o, none⟩))).run P w = .ok v w := H.2.ld i hL hs hv
theorem Hd.ldA {w0 : World} {L : List Ent} (H : Hd w0 L w) (i : Nat) {b o : Nat} {cs sub : List Value} {t ty m : TypeId} (hL : L[i]? = some (.blk b cs t)) (hs : aggSz P ty = some m) (hsub : (cs.drop o).take m = sub) (hl : sub.length = m) :
    (Instr.loadAt ty (.pointer (some ⟨b, o, none⟩))).run P w = .ok (.agg sub.toArray) w := H.2.ldA i hL hs hsub hl
theorem row_rd {A : Option Addr} {n c e sz : Nat} {xs : List Value} (h : w.ownsRow 0 e sz (.slice A n c) n xs) : RdS w A xs := by
  have H : Hp w [] [.row A n c e sz xs] w → RdS w A xs := fun H => H.rdRowN 0 rfl
  rcases h.2 with ⟨h0, hn⟩ | ⟨g, cap, cur, hv, _, hh, hnc, _, hsz, ht⟩
  · left
    have := h.1
    rw [hn, Nat.zero_mul] at this
    exact List.eq_nil_of_length_eq_zero this
  · injection hv with hA
    subst hA
    refine .inr ⟨_, rfl, (Array.getElem?_eq_some_iff.1 hh).1, fun j v hv => ?_⟩
    rw [addr_add]
    have hj : j < n * sz := by
      have := (List.getElem?_eq_some_iff.1 hv).1
      have := h.1
      omega
    rw [← ht, List.getElem?_take_of_lt (by omega)] at hv
    simp only [World.cell?, hh]
    simpa using hv
theorem Hd.rdRow {w0 : World} {L : List Ent} (H : Hd w0 L w) (i : Nat) {A : Option Addr} {n c e sz : Nat} {xs : List Value} (hL : L[i]? = some (.row A n c e sz xs)) : RdS w A xs := row_rd (H.2 _ (List.mem_of_getElem? hL))
theorem Hd.rdBlk {w0 : World} {L : List Ent} (H : Hd w0 L w) (i : Nat) {b o : Nat} {cs : List Value} {t : TypeId} (n : Nat) {xs : List Value} (hL : L[i]? = some (.blk b cs t)) (hx : (cs.drop o).take n = xs) : RdS w (some ⟨b, o, none⟩) xs :=
  RdS.blk (H.2 _ (List.mem_of_getElem? hL)) o n hx
end
end Go.Proofs.Ytgmggjnoegelgaa
