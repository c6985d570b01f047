/- The blocks that a call knows: how they are read, written, made; what else there was stays. Plain laws over any program. -/
import Derived.Test.YtgmggjnoegelgaaGa
import Derived.Maps.AppendAt
import Derived.Laws.CopyRow
namespace Go.Proofs.Ytgmggjnoegelgaa
open Go.RowKit

/-- A block known whole (none of its cells is frozen), or a slice that owns its row. -/
inductive Ent where
  | blk (b : Nat) (cs : List Value) (t : TypeId)
  | row (A : Option Addr) (n c : Nat) (e : TypeId) (sz : Nat) (xs : List Value)
  | obj (k : Nat) (o : Obj)
def Ent.ids : Ent → List Nat
  | .blk b _ _ => [b]
  | .row A _ _ _ _ _ => (A.map (·.block)).toList
  | .obj k _ => [k]
/-- Block b holds the cells cs, of element type t, none frozen. -/
def Blk (w : World) (b : Nat) (cs : List Value) (t : TypeId) : Prop :=
  ∃ lo hi, w.heap[b]? = some (.cells cs.toArray t (lo, hi)) ∧ (lo = hi ∨ cs.length ≤ lo)
def Ent.holds (w : World) : Ent → Prop
  | .blk b cs t => Blk w b cs t
  | .row A n c e sz xs => w.ownsRow 0 e sz (.slice A n c) n xs
  | .obj k o => w.heap[k]? = some o
def ids (L : List Ent) : List Nat := L.flatMap Ent.ids
theorem ids_nil : ids [] = [] := rfl
theorem ids_cons (e : Ent) (L : List Ent) : ids (e :: L) = e.ids ++ ids L := by simp [ids]
theorem ids_append (L M : List Ent) : ids (L ++ M) = ids L ++ ids M := by simp [ids]

/-- From w0 to w: what was there is as it was, but for the blocks S; and the blocks and rows L are known, each in a block of its own, either new or of S. -/
structure Hp (w0 : World) (S : List Nat) (L : List Ent) (w : World) : Prop where
  os : w.os = w0.os
  tape : w.tape = w0.tape
  output : w.output = w0.output
  size : w0.heap.size ≤ w.heap.size
  keep : ∀ k, k < w0.heap.size → k ∉ S → w.heap[k]? = w0.heap[k]?
  ents : ∀ e, e ∈ L → e.holds w
  old : ∀ k, k ∈ ids L → w0.heap.size ≤ k ∨ k ∈ S
  nd : (ids L).Nodup

section
variable {P : Program} {w0 w w' : World} {S : List Nat} {L : List Ent}
theorem Blk.cell {b : Nat} {cs : List Value} {t : TypeId} (h : Blk w b cs t) (o : Nat) : w.cell? ⟨b, o, none⟩ = cs[o]? := by
  obtain ⟨lo, hi, hb, _⟩ := h
  simp [World.cell?, hb]
theorem Blk.frozen {b : Nat} {cs : List Value} {t : TypeId} (h : Blk w b cs t) {o : Nat} (ho : o < cs.length) : w.frozen? ⟨b, o, none⟩ = false := by
  obtain ⟨lo, hi, hb, hf⟩ := h
  simp only [World.frozen?, hb]
  have : ¬ (lo ≤ o ∧ o < hi) := by omega
  simpa using this
theorem Blk.lt {b : Nat} {cs : List Value} {t : TypeId} (h : Blk w b cs t) : b < w.heap.size := by
  obtain ⟨lo, hi, hb, _⟩ := h
  exact (Array.getElem?_eq_some_iff.1 hb).1
theorem Blk.same {b : Nat} {cs : List Value} {t : TypeId} (h : Blk w b cs t) (hb : w'.heap[b]? = w.heap[b]?) : Blk w' b cs t := by
  obtain ⟨lo, hi, h1, h2⟩ := h
  exact ⟨lo, hi, hb.trans h1, h2⟩
theorem Blk.new (w : World) (cs : List Value) (t : TypeId) : Blk (w.alloc (.cells cs.toArray t)) w.heap.size cs t :=
  ⟨0, 0, heap_alloc_new w _, .inl rfl⟩
theorem Blk.set_ {b : Nat} {cs : List Value} {t : TypeId} (h : Blk w b cs t) (o : Nat) (v : Value) : Blk (w.setCell ⟨b, o, none⟩ v) b (cs.set o v) t := by
  obtain ⟨lo, hi, h1, h2⟩ := h
  refine ⟨lo, hi, ?_, by simpa using h2⟩
  simp [World.setCell, Array.getElem?_modify, h1]
theorem row_lt {A : Option Addr} {n c e sz : Nat} {xs : List Value} {b0 : Nat} (h : w.ownsRow b0 e sz (.slice A n c) n xs) : ∀ k ∈ (A.map (·.block)).toList, k < w.heap.size := by
  intro k hk
  rcases h.2 with ⟨h0, _⟩ | ⟨g, cap, cur, hv, _, hh, _⟩
  · injection h0 with hA
    subst hA
    simp at hk
  · injection hv with hA
    subst hA
    simp at hk
    subst hk
    exact (Array.getElem?_eq_some_iff.1 hh).1
theorem row_same {A : Option Addr} {n c e sz : Nat} {xs : List Value} {b0 : Nat} (h : w.ownsRow b0 e sz (.slice A n c) n xs) (hs : ∀ k ∈ (A.map (·.block)).toList, w'.heap[k]? = w.heap[k]?) :
    w'.ownsRow b0 e sz (.slice A n c) n xs := by
  refine ⟨h.1, ?_⟩
  rcases h.2 with h0 | ⟨g, cap, cur, hv, hg, hh, hr⟩
  · exact .inl h0
  · refine .inr ⟨g, cap, cur, hv, hg, (hs g ?_).trans hh, hr⟩
    injection hv with hA
    subst hA
    simp
theorem Ent.lt {e : Ent} (h : e.holds w) : ∀ k ∈ e.ids, k < w.heap.size := by
  intro k hk
  cases e with
  | blk b cs t =>
    simp [Ent.ids] at hk
    subst hk
    exact Blk.lt h
  | row A n c e sz xs => exact row_lt h k hk
  | obj j o =>
    simp [Ent.ids] at hk
    subst hk
    exact (Array.getElem?_eq_some_iff.1 h).1
theorem Ent.same {e : Ent} (h : e.holds w) (hs : ∀ k ∈ e.ids, w'.heap[k]? = w.heap[k]?) : e.holds w' := by
  cases e with
  | blk b cs t => exact Blk.same h (hs b (by simp [Ent.ids]))
  | row A n c e sz xs => exact row_same h hs
  | obj j o => exact (hs j (by simp [Ent.ids])).trans h
theorem ids_mem {e : Ent} (he : e ∈ L) {k : Nat} (hk : k ∈ e.ids) : k ∈ ids L := List.mem_flatMap.2 ⟨e, he, hk⟩

theorem Hp.start (w : World) : Hp w [] [] w := ⟨rfl, rfl, rfl, Nat.le_refl _, fun _ _ _ => rfl, fun e he => by simp at he, fun k hk => by simp [ids] at hk, by simp [ids]⟩
theorem Hp.lt (H : Hp w0 S L w) : ∀ k ∈ ids L, k < w.heap.size := by
  intro k hk
  obtain ⟨e, he, hk'⟩ := List.mem_flatMap.1 hk
  exact Ent.lt (H.ents e he) k hk'
theorem Hp.below (H : Hp w0 [] L w) : Below w0.heap.size w0 w := ⟨H.os, H.tape, H.output, H.size, fun k hk => H.keep k hk (by simp)⟩
/-- Only blocks beyond the known ones have come, or have turned. -/
theorem Hp.step (H : Hp w0 S L w) (hb : Below w.heap.size w w') : Hp w0 S L w' :=
  ⟨hb.os.trans H.os, hb.tape.trans H.tape, hb.output.trans H.output, Nat.le_trans H.size hb.size,
   fun k hk hs => (hb.block k (Nat.lt_of_lt_of_le hk H.size)).trans (H.keep k hk hs),
   fun e he => Ent.same (H.ents e he) (fun k hk => hb.block k (Ent.lt (H.ents e he) k hk)), H.old, H.nd⟩
theorem Hp.drew (H : Hp w0 S L w) : Hp w0 S L { w with drawn := w.drawn + 1 } := H.step (Below.refl _ _).drew
/-- A call with a footprint: its own new blocks join; those of S' that it turned were among the known. -/
theorem nodup_sub {L L' : List Ent} (h : L'.Sublist L) (hn : (ids L).Nodup) : (ids L').Nodup := by
  have : (ids L').Sublist (ids L) := by
    induction h with
    | slnil => simp
    | cons e _ ih => rw [ids_cons]; exact (ih (by rw [ids_cons] at hn; exact (List.nodup_append.1 hn).2.1)).trans (List.sublist_append_right _ _)
    | cons_cons e _ ih => rw [ids_cons, ids_cons]; exact List.Sublist.append_left (ih (by rw [ids_cons] at hn; exact (List.nodup_append.1 hn).2.1)) _
  exact hn.sublist this
/-- Fewer things known. -/
theorem Hp.sub {L' : List Ent} (H : Hp w0 S L w) (h : L'.Sublist L) : Hp w0 S L' w :=
  ⟨H.os, H.tape, H.output, H.size, H.keep, fun e he => H.ents e (h.subset he),
   fun k hk => by
     obtain ⟨e, he, hk'⟩ := List.mem_flatMap.1 hk
     exact H.old k (ids_mem (h.subset he) hk'),
   nodup_sub h H.nd⟩
theorem Hp.callNew {L' : List Ent} (H : Hp w0 S L w) (H' : Hp w [] L' w') : Hp w0 S (L ++ L') w' := by
  have H1 := H.step H'.below
  refine ⟨H1.os, H1.tape, H1.output, H1.size, H1.keep, ?_, ?_, ?_⟩
  · intro e he
    rcases List.mem_append.1 he with he | he
    · exact H1.ents e he
    · exact H'.ents e he
  · intro k hk
    rw [ids_append] at hk
    rcases List.mem_append.1 hk with hk | hk
    · exact H1.old k hk
    · rcases H'.old k hk with h | h
      · exact .inl (Nat.le_trans H.size h)
      · simp at h
  · rw [ids_append]
    refine List.nodup_append.2 ⟨H1.nd, H'.nd, ?_⟩
    intro a ha b hb hab
    subst hab
    have h1 := H.lt a ha
    rcases H'.old a hb with h | h
    · omega
    · simp at h

theorem Hp.callNil (H : Hp w0 S L w) (H' : Hp w [] [] w') : Hp w0 S L w' := by
  have := H.callNew H'
  simpa using this

/-! ### what is read -/
theorem Hp.blkAt (H : Hp w0 S L w) (i : Nat) {b : Nat} {cs : List Value} {t : TypeId} (hL : L[i]? = some (.blk b cs t)) : Blk w b cs t := H.ents _ (List.mem_of_getElem? hL)
theorem Hp.rowAt (H : Hp w0 S L w) (i : Nat) {A : Option Addr} {n c e sz : Nat} {xs : List Value} (hL : L[i]? = some (.row A n c e sz xs)) : w.ownsRow 0 e sz (.slice A n c) n xs := H.ents _ (List.mem_of_getElem? hL)
/-- A cell of memory that was there. -/
theorem Hp.oldCell (H : Hp w0 [] L w) {a : Addr} {v : Value} (h : w0.cell? a = some v) : w.cell? a = some v := by
  have hlt : a.block < w0.heap.size := block_lt_of_cell h
  rw [World.cell?_of_block (w := w0) (H.keep a.block hlt (by simp))]
  exact h

/-- A type of one cell. -/
def scal (P : Program) (ty : TypeId) : Bool :=
  match P.underlying ty, P.info? ty with
  | some (.struct _), _ => false
  | some (.array _ _), _ => false
  | some _, some i => i.size == 1
  | _, _ => false
/-- A struct's or array's number of cells. -/
def aggSz (P : Program) (ty : TypeId) : Option Nat :=
  match P.underlying ty, P.info? ty with
  | some (.struct _), some i => some i.size
  | some (.array _ _), some i => some i.size
  | _, _ => none
theorem run_isAgg_scal {ty : TypeId} (h : scal P ty = true) (w : World) : (isAgg ty).run P w = .ok false w := by
  unfold scal at h
  cases hu : P.underlying ty with
  | none => simp [hu] at h
  | some d =>
    unfold isAgg
    rw [Sem.run_bind, run_underlying hu w]
    cases d <;> simp_all
theorem run_isAgg_agg {ty m : TypeId} (h : aggSz P ty = some m) (w : World) : (isAgg ty).run P w = .ok true w := by
  unfold aggSz at h
  cases hu : P.underlying ty with
  | none => simp [hu] at h
  | some d =>
    unfold isAgg
    rw [Sem.run_bind, run_underlying hu w]
    cases d <;> simp_all
theorem run_sizeOf_agg {ty m : TypeId} (h : aggSz P ty = some m) (w : World) : (sizeOf ty).run P w = .ok m w := by
  unfold aggSz at h
  cases hi : P.info? ty with
  | none => simp only [hi] at h; split at h <;> simp_all
  | some i =>
    simp only [hi] at h
    have : i.size = m := by split at h <;> simp_all
    simp [sizeOf, typeInfo, hi, this]
theorem run_sizeOf_scal {ty : TypeId} (h : scal P ty = true) (w : World) : (sizeOf ty).run P w = .ok 1 w := by
  unfold scal at h
  cases hi : P.info? ty with
  | none => simp only [hi] at h; split at h <;> simp_all
  | some i =>
    simp only [hi] at h
    have : i.size = 1 := by split at h <;> simp_all
    simp [sizeOf, typeInfo, hi, this]
theorem run_ld1 {ty : TypeId} {a : Addr} {v : Value} (hs : scal P ty = true) (hc : w.cell? a = some v) : (Instr.loadAt ty (.pointer (some a))).run P w = .ok v w := by
  simp [Instr.loadAt, Instr.sureAddr, loadVar, run_isAgg_scal hs, hc]
theorem run_ldA {ty m : TypeId} {b o : Nat} {cs sub : List Value} {t : TypeId} (hs : aggSz P ty = some m) (hb : Blk w b cs t) (hsub : (cs.drop o).take m = sub) (hl : sub.length = m) :
    (Instr.loadAt ty (.pointer (some ⟨b, o, none⟩))).run P w = .ok (.agg sub.toArray) w := by
  have h1 : (loadCells ⟨b, o, none⟩ sub.length).run P w = .ok sub.toArray w := by
    refine run_loadCells_list (P := P) w ⟨b, o, none⟩ sub (fun j v hv => ?_)
    have hadd : (⟨b, o, none⟩ : Addr).add j = ⟨b, o + j, none⟩ := by unfold Addr.add; split <;> simp_all
    rw [hadd, hb.cell, ← hv, ← hsub]
    have hj : j < m := by
      rw [← hl]
      exact (List.getElem?_eq_some_iff.1 hv).1
    rw [List.getElem?_take_of_lt hj, List.getElem?_drop]
  rw [hl] at h1
  simp [Instr.loadAt, Instr.sureAddr, loadVar, run_isAgg_agg hs, run_sizeOf_agg hs, h1]
theorem Hp.ld (H : Hp w0 S L w) (i : Nat) {b o : Nat} {cs : List Value} {t ty : TypeId} {v : Value} (hL : L[i]? = some (.blk b cs t)) (hs : scal P ty = true) (hv : cs[o]? = some v) :
    (Instr.loadAt ty (.pointer (some ⟨b, o, none⟩))).run P w = .ok v w := run_ld1 hs (by rw [(H.blkAt i hL).cell]; exact hv)
theorem Hp.ldA (H : Hp w0 S L w) (i : Nat) {b o : Nat} {cs sub : List Value} {t ty m : TypeId} (hL : L[i]? = some (.blk b cs t)) (hs : aggSz P ty = some m) (hsub : (cs.drop o).take m = sub) (hl : sub.length = m) :
    (Instr.loadAt ty (.pointer (some ⟨b, o, none⟩))).run P w = .ok (.agg sub.toArray) w := run_ldA hs (H.blkAt i hL) hsub hl

/-! ### what is written -/
theorem ids_set {i : Nat} {e e' : Ent} (hL : L[i]? = some e) (he : e'.ids = e.ids) : ids (L.set i e') = ids L := by
  induction L generalizing i with
  | nil => simp at hL
  | cons x r ih =>
    cases i with
    | zero =>
      simp at hL
      subst hL
      simp [ids_cons, he]
    | succ i =>
      simp only [List.set_cons_succ, ids_cons]
      rw [ih (by simpa using hL)]
theorem other_ids {i j : Nat} {e x : Ent} (hn : (ids L).Nodup) (hi : L[i]? = some e) (hj : L[j]? = some x) (hne : i ≠ j) {k : Nat} (hk : k ∈ e.ids) : k ∉ x.ids := by
  induction L generalizing i j with
  | nil => simp at hi
  | cons y r ih =>
    rw [ids_cons] at hn
    obtain ⟨_, hn2, hn3⟩ := List.nodup_append.1 hn
    cases i with
    | zero =>
      simp at hi
      subst hi
      cases j with
      | zero => omega
      | succ j =>
        intro hkx
        have hx : x ∈ r := List.mem_of_getElem? (by simpa using hj)
        exact hn3 k hk k (ids_mem hx hkx) rfl
    | succ i =>
      cases j with
      | zero =>
        simp at hj
        subst hj
        intro hkx
        have he : e ∈ r := List.mem_of_getElem? (by simpa using hi)
        exact hn3 k hkx k (ids_mem he hk) rfl
      | succ j => exact ih hn2 (by simpa using hi) (by simpa using hj) (by omega)
/-- Entry i is turned into e', over the same block; all other blocks stay. -/
theorem Hp.turn (H : Hp w0 S L w) (i : Nat) {e e' : Ent} (hL : L[i]? = some e) (he : e'.ids = e.ids) (h' : e'.holds w') (hos : w'.os = w.os) (htape : w'.tape = w.tape) (hout : w'.output = w.output)
    (hsz : w.heap.size ≤ w'.heap.size) (hk : ∀ k, k < w.heap.size → k ∉ e.ids → w'.heap[k]? = w.heap[k]?) : Hp w0 S (L.set i e') w' := by
  refine ⟨hos.trans H.os, htape.trans H.tape, hout.trans H.output, Nat.le_trans H.size hsz, ?_, ?_, ?_, ?_⟩
  · intro k hk0 hS
    refine (hk k (Nat.lt_of_lt_of_le hk0 H.size) (fun hin => ?_)).trans (H.keep k hk0 hS)
    rcases H.old k (ids_mem (List.mem_of_getElem? hL) hin) with h | h
    · omega
    · exact hS h
  · intro x hx
    obtain ⟨j, hj⟩ := List.getElem?_of_mem hx
    by_cases hij : i = j
    · subst hij
      have hi : i < L.length := (List.getElem?_eq_some_iff.1 hL).1
      rw [List.getElem?_set_self hi] at hj
      injection hj with hj
      subst hj
      exact h'
    · rw [List.getElem?_set_ne hij] at hj
      have hxx := H.ents x (List.mem_of_getElem? hj)
      refine Ent.same hxx (fun k hkx => hk k (Ent.lt hxx k hkx) (fun hke => ?_))
      exact other_ids H.nd hL hj hij hke hkx
  · intro k hk
    rw [ids_set hL he] at hk
    exact H.old k hk
  · rw [ids_set hL he]
    exact H.nd
theorem Hp.setCell (H : Hp w0 S L w) (i : Nat) {b : Nat} {cs : List Value} {t : TypeId} (hL : L[i]? = some (.blk b cs t)) (o : Nat) (v : Value) : Hp w0 S (L.set i (.blk b (cs.set o v) t)) (w.setCell ⟨b, o, none⟩ v) :=
  H.turn i hL rfl ((H.blkAt i hL).set_ o v) rfl rfl rfl (by simp [World.setCell]) (fun k _ hk => Below.heap_setCell w _ v k (by simpa [Ent.ids] using hk))
theorem Hp.st (H : Hp w0 S L w) (i : Nat) {b o : Nat} {cs : List Value} {t ty : TypeId} {v : Value} (hL : L[i]? = some (.blk b cs t)) (hs : scal P ty = true) (ho : o < cs.length) (h1 : v.oneCell' = true) :
    ∃ w', (Instr.storeAt ty (.pointer (some ⟨b, o, none⟩)) v).run P w = .ok () w' ∧ Hp w0 S (L.set i (.blk b (cs.set o v) t)) w' := by
  refine ⟨_, ?_, H.setCell i hL o v⟩
  have hcl : v.cells = #[v] := by cases v <;> simp_all [Value.cells, Value.oneCell']
  have hc : w.cell? ⟨b, o, none⟩ = some cs[o] := by
    rw [(H.blkAt i hL).cell]
    simp [ho]
  have hadd : (⟨b, o, none⟩ : Addr).add 0 = ⟨b, o, none⟩ := rfl
  simp [Instr.storeAt, Instr.sureAddr, storeVar, run_sizeOf_scal hs, hcl, storeCells, hadd, run_store P w _ v _ h1, hc, (H.blkAt i hL).frozen ho]
theorem set_splice (cs : List Value) (o : Nat) (v : Value) (rest : List Value) (h : o < cs.length) :
    (cs.set o v).take (o + 1) ++ rest ++ (cs.set o v).drop (o + 1 + rest.length) = cs.take o ++ (v :: rest) ++ cs.drop (o + (v :: rest).length) := by
  have h1 : (cs.set o v).take (o + 1) = cs.take o ++ [v] := by
    rw [List.take_add_one, List.take_set_of_le (Nat.le_refl _)]
    simp [h]
  rw [h1, List.drop_set_of_lt (by omega)]
  simp [Nat.add_comm, Nat.add_left_comm]
theorem Hp.stCells (i : Nat) {b : Nat} {t : TypeId} (o : Nat) : ∀ (vs : List Value) (j : Nat) (L : List Ent) (w : World) (cs : List Value), Hp w0 S L w → L[i]? = some (.blk b cs t) → o + j + vs.length ≤ cs.length → (∀ v ∈ vs, v.oneCell' = true) →
    ∃ w', (storeCells ⟨b, o, none⟩ vs j).run P w = .ok () w' ∧ Hp w0 S (L.set i (.blk b (cs.take (o + j) ++ vs ++ cs.drop (o + j + vs.length)) t)) w'
  | [], j, L, w, cs, H, hL, _, _ => by
    refine ⟨w, rfl, ?_⟩
    have hi : i < L.length := (List.getElem?_eq_some_iff.1 hL).1
    have : L.set i (.blk b (cs.take (o + j) ++ [] ++ cs.drop (o + j + ([] : List Value).length)) t) = L := by
      simp only [List.append_nil, List.length_nil, Nat.add_zero, List.take_append_drop]
      refine List.ext_getElem? (fun k => ?_)
      by_cases hk : i = k
      · subst hk
        rw [List.getElem?_set_self hi, hL]
      · rw [List.getElem?_set_ne hk]
    rw [this]
    exact H
  | v :: vs, j, L, w, cs, H, hL, hlen, h1 => by
    have hoj : o + j < cs.length := by simp at hlen; omega
    have hadd : (⟨b, o, none⟩ : Addr).add j = ⟨b, o + j, none⟩ := by unfold Addr.add; split <;> simp_all
    have hc : w.cell? ⟨b, o + j, none⟩ = some cs[o + j] := by
      rw [(H.blkAt i hL).cell]
      simp [hoj]
    have hst : (store ((⟨b, o, none⟩ : Addr).add j) v).run P w = .ok () (w.setCell ⟨b, o + j, none⟩ v) := by
      rw [hadd, run_store P w _ v _ (h1 v (by simp)), hc]
      simp [(H.blkAt i hL).frozen hoj]
    have hi : i < L.length := (List.getElem?_eq_some_iff.1 hL).1
    obtain ⟨w', hr, H'⟩ := Hp.stCells i (b := b) (t := t) o vs (j + 1) _ _ (cs.set (o + j) v) (H.setCell i hL (o + j) v) (List.getElem?_set_self hi) (by simp at hlen ⊢; omega) (fun x hx => h1 x (by simp [hx]))
    refine ⟨w', ?_, ?_⟩
    · simp only [storeCells, Sem.run_bind, hst, Result.andThen_ok, hr]
    · rw [List.set_set, ← Nat.add_assoc, set_splice cs (o + j) v vs hoj] at H'
      exact H'
theorem Hp.stA (H : Hp w0 S L w) (i : Nat) {b o : Nat} {cs vs : List Value} {t ty m : TypeId} (hL : L[i]? = some (.blk b cs t)) (hs : aggSz P ty = some m) (hm : vs.length = m) (ho : o + m ≤ cs.length) (h1 : ∀ v ∈ vs, v.oneCell' = true) :
    ∃ w', (Instr.storeAt ty (.pointer (some ⟨b, o, none⟩)) (.agg vs.toArray)).run P w = .ok () w' ∧ Hp w0 S (L.set i (.blk b (cs.take o ++ vs ++ cs.drop (o + m)) t)) w' := by
  obtain ⟨w', hr, H'⟩ := Hp.stCells (P := P) i (b := b) (t := t) o vs 0 L w cs H hL (by omega) h1
  refine ⟨w', ?_, by simpa [hm] using H'⟩
  simp [Instr.storeAt, Instr.sureAddr, storeVar, run_sizeOf_agg hs, Value.cells, hm, hr]

/-! ### what is made -/
theorem Hp.new (H : Hp w0 S L w) (cs : List Value) (t : TypeId) : Hp w0 S (L ++ [.blk w.heap.size cs t]) (w.alloc (.cells cs.toArray t)) := by
  refine H.callNew (L' := [.blk w.heap.size cs t]) ⟨rfl, rfl, rfl, by simp, fun k hk _ => heap_alloc_old w _ hk, ?_, ?_, by simp [ids, Ent.ids]⟩
  · intro e he
    simp at he
    subst he
    exact Blk.new w cs t
  · intro k hk
    simp [ids, Ent.ids] at hk
    omega
theorem Hp.box (H : Hp w0 S L w) (t : TypeId) (cs : List Value) (v : Value) (hv : v.cells = cs.toArray) :
    ∃ b w', (Instr.box t v).run P w = .ok (.pointer (some ⟨b, 0, none⟩)) w' ∧ Hp w0 S (L ++ [.blk b cs t]) w' :=
  ⟨w.heap.size, _, by simp [Instr.box, newVar, newRow, newObj, hv, Sem.run], H.new cs t⟩
def zeroOf (P : Program) (t : TypeId) : Option (List Value) := ((P.info? t).bind (·.zero)).map (·.cells.toList)
theorem Hp.alloc (H : Hp w0 S L w) (t : TypeId) (cs : List Value) (hz : zeroOf P t = some cs) :
    ∃ b w', (Instr.alloc t true (.tuple #[])).run P w = .ok (.pointer (some ⟨b, 0, none⟩)) w' ∧ Hp w0 S (L ++ [.blk b cs t]) w' := by
  refine ⟨w.heap.size, _, ?_, H.new cs t⟩
  unfold zeroOf at hz
  cases hi : P.info? t with
  | none => simp [hi] at hz
  | some i =>
    cases hzz : i.zero with
    | none => simp [hi, hzz] at hz
    | some z =>
      simp [hi, hzz] at hz
      have hzc : z.cells = cs.toArray := by rw [← hz]
      simp [Instr.alloc, zeroValue, typeInfo, hi, hzz, newVar, newRow, newObj, hzc, Sem.run]
end
end Go.Proofs.Ytgmggjnoegelgaa
