/- A region that draws its order, where several writing operations may come up: each of them is walked. Plain laws over any program. -/
import Derived.Test.YtgmggjnoegelgaaGj
namespace Go.Proofs.Ytgmggjnoegelgaa
open Go.RowKit

section
variable {P : Program} {ops : Array Oper} {Q : Exit → Act → World → Prop} {S : World → Prop} {i n : Nat} {M M' : FM} {w w' : World} {done : List Nat}
/-- Operation i comes up now. -/
def GO (P : Program) (ops : Array Oper) (Q : Exit → Act → World → Prop) (S : World → Prop) (done : List Nat) (i n : Nat) (M : FM) (w : World) : Prop :=
  ∀ F : Array Value, F.size = n → Fits F M → Region.noSelect ops = true → (∀ c (a : Act) d v w, Q (.panic c) (a.put d v) w → Q (.panic c) a w) → ∀ fuel,
    wpOp P ops Q i (fun a' w' => S w' ∧ wpAnyH P .any ops Q S (fuel + (ops.size - (done ++ [i]).length)) (lsD ops.size (done ++ [i])) a' w') ⟨F, []⟩ w
def rdyB (ops : Array Oper) (done rs : List Nat) : Bool := decide (Region.ready .any ops (lsD ops.size done) = rs) && !rs.isEmpty && Nat.blt done.length ops.size
theorem GP.alls (rs : List Nat) (hr : rdyB ops done rs = true) (h : ∀ i ∈ rs, GO P ops Q S done i n M w) : GP P ops Q S done n M w := by
  intro F hF hM hsel hQ fuel
  simp only [rdyB, Bool.and_eq_true, decide_eq_true_eq] at hr
  have hl : done.length < ops.size := by simpa [Nat.blt_eq] using hr.2
  refine (show wpAnyH P .any ops Q S (fuel + (ops.size - done.length)) (lsD ops.size done) ⟨F, []⟩ w from ?_)
  have e : ∀ i, fuel + (ops.size - done.length) = (fuel + (ops.size - (done ++ [i]).length)) + 1 := fun i => by simp; omega
  rw [e 0]
  refine wpAnyH_all hr.1.1 (by intro h0; rw [h0] at hr; simp at hr) fun k hk => ?_
  have := h k hk F hF hM hsel hQ fuel
  rw [lsD_snoc] at this
  simpa using this
theorem GP.all2 (i j : Nat) (hr : rdyB ops done [i, j] = true) (h1 : GO P ops Q S done i n M w) (h2 : GO P ops Q S done j n M w) : GP P ops Q S done n M w :=
  GP.alls _ hr fun k hk => by
    simp only [List.mem_cons, List.not_mem_nil, or_false] at hk
    rcases hk with rfl | rfl <;> assumption
theorem GP.all1 (i : Nat) (hr : rdyB ops done [i] = true) (h1 : GO P ops Q S done i n M w) : GP P ops Q S done n M w :=
  GP.alls _ hr fun k hk => by
    simp only [List.mem_cons, List.not_mem_nil, or_false] at hk
    subst hk
    assumption
theorem GP.all3 (i j k : Nat) (hr : rdyB ops done [i, j, k] = true) (h1 : GO P ops Q S done i n M w) (h2 : GO P ops Q S done j n M w) (h3 : GO P ops Q S done k n M w) : GP P ops Q S done n M w :=
  GP.alls _ hr fun k hk => by
    simp only [List.mem_cons, List.not_mem_nil, or_false] at hk
    rcases hk with rfl | rfl | rfl <;> assumption
theorem GP.all4 (i j k l : Nat) (hr : rdyB ops done [i, j, k, l] = true) (h1 : GO P ops Q S done i n M w) (h2 : GO P ops Q S done j n M w) (h3 : GO P ops Q S done k n M w) (h4 : GO P ops Q S done l n M w) : GP P ops Q S done n M w :=
  GP.alls _ hr fun k hk => by
    simp only [List.mem_cons, List.not_mem_nil, or_false] at hk
    rcases hk with rfl | rfl | rfl | rfl <;> assumption
theorem GO.of {o : Oper} (ho : ops[i]? = some o) (hg : gdM ops M o = some true)
    (h : ∀ F : Array Value, F.size = n → Fits F M → Region.noSelect ops = true → (∀ c (a : Act) d v w, Q (.panic c) (a.put d v) w → Q (.panic c) a w) → ∀ fuel,
      Oper.wp P o ⟨F, []⟩ w (fun a' w' => S w' ∧ wpAnyH P .any ops Q S (fuel + (ops.size - (done ++ [i]).length)) (lsD ops.size (done ++ [i])) a' w') Q) : GO P ops Q S done i n M w := by
  intro F hF hM hsel hQ fuel
  unfold wpOp
  simp only [ho]
  rw [gdM_fits hM hg, if_pos rfl]
  exact .inl (h F hF hM hsel hQ fuel)
theorem GO.made {s : Sem Value} {v : Value} (hr : s.run P w = .ok v w') (ts : List Nat) (M' : FM) (hs : semAt ops M i = some (vN s)) (hp : (putM n M (dstAt ops i) v).bind (pick ts) = some M')
    (hS : S w') (h : GP P ops Q S (done ++ [i]) n M' w') : GO P ops Q S done i n M w := by
  obtain ⟨o, ho, hg, hk, he, hd⟩ := semAt_spec hs
  obtain ⟨M1, h1, h2⟩ := putM_bind hp
  rw [hd] at h1
  refine GO.of ho hg fun F hF hM hsel hQ fuel => ?_
  unfold Oper.wp
  rw [known_exec hM hk, he]
  have : (vN s).run P w = .ok (.value v) w' := by simp [vN, hr]
  rw [this]
  have hp' := hM.put (d := o.dst) (v := v) (M' := M1) (by rw [hF]; exact h1)
  show S w' ∧ _
  rw [hp'.2.2]
  exact ⟨hS, h _ (by rw [hp'.2.1, hF]) (hp'.1.pick h2) hsel hQ fuel⟩
theorem GO.semU {s : Sem Unit} (hr : s.run P w = .ok () w') (ts : List Nat) (M' : FM) (hs : semAt ops M i = some (uN s)) (hd : dstAt ops i = none) (hp : pick ts M = some M')
    (hS : S w') (h : GP P ops Q S (done ++ [i]) n M' w') : GO P ops Q S done i n M w := by
  obtain ⟨o, ho, hg, hk, he, hd'⟩ := semAt_spec hs
  rw [hd] at hd'
  refine GO.of ho hg fun F hF hM hsel hQ fuel => ?_
  unfold Oper.wp
  rw [known_exec hM hk, he]
  have : (uN s).run P w = .ok .skip w' := by simp [uN, hr]
  rw [this]
  show S w' ∧ _
  rw [← hd']
  exact ⟨hS, h F hF (hM.pick hp) hsel hQ fuel⟩
theorem GO.call {f : FuncId} {args : Array Value} {R : Ending → World → Prop} (hc : Calls P f args w R) (hs : (semAt ops M i).bind (pev P) = some (.enter f args))
    (h : ∀ e w', R e w' → ∃ v, e = .returned v ∧ S w' ∧ ∃ ts M', (putM n M (dstAt ops i) v).bind (pick ts) = some M' ∧ GP P ops Q S (done ++ [i]) n M' w') : GO P ops Q S done i n M w := by
  cases hsm : semAt ops M i with
  | none => rw [hsm] at hs; cases hs
  | some s =>
    rw [hsm] at hs
    obtain ⟨o, ho, hg, hk, he, hd⟩ := semAt_spec hsm
    refine GO.of ho hg fun F hF hM hsel hQ fuel => ?_
    unfold Oper.wp
    rw [known_exec hM hk, he, pev_run hs w]
    show Calls P f args w _
    refine hc.mono fun e w' hR => ?_
    obtain ⟨v, rfl, hS, ts, M', hp, hG⟩ := h e w' hR
    obtain ⟨M1, h1, h2⟩ := putM_bind hp
    rw [hd] at h1
    have hp' := hM.put (d := o.dst) (v := v) (M' := M1) (by rw [hF]; exact h1)
    show S w' ∧ _
    rw [hp'.2.2]
    exact ⟨hS, hG _ (by rw [hp'.2.1, hF]) (hp'.1.pick h2) hsel hQ fuel⟩
theorem GP.perm {d : List Nat} (d' : List Nat) (hl : lsD ops.size d = lsD ops.size d') (hn : d.length = d'.length) (h : GP P ops Q S d' n M w) : GP P ops Q S d n M w := by
  intro F hF hM hsel hQ fuel
  have := h F hF hM hsel hQ fuel
  rwa [← hl, ← hn] at this
theorem Hp.reorder {w0 : World} {S0 : List Nat} {L L' : List Ent} (H : Hp w0 S0 L w) (h : List.Perm L L') : Hp w0 S0 L' w :=
  ⟨H.os, H.tape, H.output, H.size, H.keep, fun e he => H.ents e (h.mem_iff.2 he), fun k hk => H.old k ((h.flatMap_right _).mem_iff.2 hk), ((h.flatMap_right _).nodup_iff).1 H.nd⟩
theorem GP.namedC (h : ∀ X : (World → Prop) → List Nat → FM → World → Prop, (∀ C d M w, X C d M w = GP P ops Q C d n M w) → X S done M w) : GP P ops Q S done n M w := h _ fun _ _ _ _ => rfl
theorem GP.named (h : ∀ X : List Nat → FM → World → Prop, (∀ d M w, X d M w = GP P ops Q S d n M w) → X done M w) : GP P ops Q S done n M w := h _ fun _ _ _ => rfl
end
end Go.Proofs.Ytgmggjnoegelgaa
