/- Arrays of whole numbers held against each other; a slice turned into one of another name. Plain laws over any program. -/
import Derived.Test.YtgmggjnoegelgaaGf
import Derived.ChangeKeysEq
import Derived.Laws.StructEq
namespace Go.Proofs.Ytgmggjnoegelgaa
open Go.RowKit

section
variable {P : Program} {w0 w : World} {S : List Nat} {L : List Ent}
def ints (k : IntKind) (xs : List Int) : List Value := xs.map (.int k)
theorem run_part_int {e : TypeId} {k k' : IntKind} (he : P.underlying e = some (.int k')) (xs : List Int) {i : Nat} (hi : i < xs.length) : (part e (ints k xs).toArray (i * 1)).run P w = .ok (.int k (xs.getD i 0)) w := by
  have h1 : (isAgg e).run P w = .ok false w := by
    unfold isAgg
    rw [Sem.run_bind, run_underlying he w]
    rfl
  have h2 : (ints k xs)[i]? = some (.int k (xs[i]?.getD 0)) := by
    simp [ints, hi]
  simp [part, h1, h2]
theorem run_eqInts {e : TypeId} {k k' : IntKind} (he : P.underlying e = some (.int k')) (d : Nat) (xs ys : List Int) (hl : xs.length = ys.length) : ∀ is : List Nat, (∀ i ∈ is, i < xs.length) →
    (Op.eqItems (d + 1) e 1 (ints k xs).toArray (ints k ys).toArray is).run P w = .ok (is.all fun i => xs.getD i 0 == ys.getD i 0) w
  | [], _ => rfl
  | i :: is, h => by
    have hi := h i (by simp)
    have ih := run_eqInts (k := k) he d xs ys hl is (fun j hj => h j (by simp [hj]))
    have hi' : i < ys.length := by omega
    simp only [Op.eqItems, Sem.run_bind, run_part_int he xs hi, run_part_int he ys hi', Result.andThen_ok, run_equalIn_int (P := P) w d e k k' _ _ he, List.all_cons]
    cases (xs.getD i 0 == ys.getD i 0) with
    | false => rfl
    | true => simpa using ih
theorem all_range_eq (xs ys : List Int) (hl : xs.length = ys.length) : ((List.range xs.length).all fun i => xs.getD i 0 == ys.getD i 0) = decide (xs = ys) := by
  rw [Bool.eq_iff_iff]
  simp only [List.all_eq_true, List.mem_range, beq_iff_eq, decide_eq_true_eq]
  constructor
  · intro h
    refine List.ext_getElem? (fun i => ?_)
    by_cases hi : i < xs.length
    · have := h i hi
      simp only [List.getD_eq_getElem?_getD] at this
      rw [List.getElem?_eq_getElem hi, List.getElem?_eq_getElem (by omega)] at this ⊢
      simpa using this
    · rw [List.getElem?_eq_none (by omega), List.getElem?_eq_none (by omega)]
  · rintro rfl i _
    rfl
/-- An array type of whole numbers: its length. -/
def arrInt (P : Program) (t : TypeId) : Option Nat :=
  match P.underlying t with
  | some (.array n e) => match P.underlying e, P.info? e with
    | some (.int _), some i => if i.size = 1 ∧ P.eqGuardType P.depth t = false then some n else none
    | _, _ => none
  | _ => none
theorem arrInt_spec {t n : Nat} (h : arrInt P t = some n) : ∃ e i k, P.underlying t = some (.array n e) ∧ P.underlying e = some (.int k) ∧ P.info? e = some i ∧ i.size = 1 ∧ P.eqGuardType P.depth t = false := by
  unfold arrInt at h
  split at h
  · rename_i m e hu
    split at h
    · rename_i k i hk hi
      split at h
      · rename_i hc
        injection h with h
        subst h
        exact ⟨e, i, k, hu, hk, hi, hc.1, hc.2⟩
      · cases h
    · cases h
  · cases h
theorem run_arrEq {t n : Nat} {k : IntKind} (ht : arrInt P t = some n) (xs ys : List Int) (hx : xs.length = n) (hy : ys.length = n) (w : World) :
    (Op.equalIn 10000 t (.agg (ints k xs).toArray) (.agg (ints k ys).toArray)).run P w = .ok (decide (xs = ys)) w := by
  obtain ⟨e, i, k', hu, he, hi, hs, _⟩ := arrInt_spec ht
  rw [run_equalIn_array w 9999 _ _ hu hi]
  have hc : P.cellsOf e = 1 := by simp [Program.cellsOf, hi, hs]
  rw [hc, run_eqInts he 9998 xs ys (by omega) (List.range n) (fun j hj => by rw [hx]; simpa using hj), ← hx, all_range_eq xs ys (by omega)]
theorem run_arr_eql {t n : Nat} {k : IntKind} {x y : Operand} (ht : arrInt P t = some n) (xs ys : List Int) (hx : xs.length = n) (hy : ys.length = n) (w : World) :
    (do eqGuard .eql t x y (.agg (ints k xs).toArray) (.agg (ints k ys).toArray); binOp .eql t (.agg (ints k xs).toArray) (.agg (ints k ys).toArray) : Sem Value).run P w = .ok (.bool (decide (xs = ys))) w := by
  obtain ⟨e, i, k', _, _, _, _, hg⟩ := arrInt_spec ht
  simp only [Sem.run_bind, run_eqGuard_agg w .eql t x y _ _ hg, Result.andThen_ok, run_eql_struct, run_arrEq ht xs ys hx hy]
theorem run_arr_neq {t n : Nat} {k : IntKind} {x y : Operand} (ht : arrInt P t = some n) (xs ys : List Int) (hx : xs.length = n) (hy : ys.length = n) (w : World) :
    (do eqGuard .neq t x y (.agg (ints k xs).toArray) (.agg (ints k ys).toArray); binOp .neq t (.agg (ints k xs).toArray) (.agg (ints k ys).toArray) : Sem Value).run P w = .ok (.bool (!decide (xs = ys))) w := by
  obtain ⟨e, i, k', _, _, _, _, hg⟩ := arrInt_spec ht
  simp only [Sem.run_bind, run_eqGuard_agg w .neq t x y _ _ hg, Result.andThen_ok, run_neq_struct, run_arrEq ht xs ys hx hy]

/-- A block's mark behind its end (bytes out of a constant text): nothing that is known turns. -/
theorem Hp.mark (H : Hp w0 S L w) (i : Nat) {b o : Nat} {cs : List Value} {t T n c : Nat} (hL : L[i]? = some (.blk b cs t)) (ht : isBytes P T = true) :
    ∃ w', (convert T T (.slice (some ⟨b, o, none⟩) n c)).run P w = .ok (.slice (some ⟨b, o, none⟩) n c) w' ∧ Hp w0 S L w' := by
  obtain ⟨e, h1, h2⟩ := isBytes_spec ht
  obtain ⟨lo, hi, hb, hf⟩ := H.blkAt i hL
  have hlt : b < w.heap.size := (Array.getElem?_eq_some_iff.1 hb).1
  have hsh : w.shape? b = some (t, cs.length) := by simp [World.shape?, hb]
  let w' := w.freeze ⟨b, cs.length, none⟩ 1
  have hw' : w'.heap[b]? = some (.cells cs.toArray t (if lo == hi then (cs.length, cs.length + 1) else (min lo cs.length, max hi (cs.length + 1)))) := by
    simp [w', World.freeze, Array.getElem?_modify, hb]
  have hoth : ∀ k, k ≠ b → w'.heap[k]? = w.heap[k]? := by
    intro k hk
    simp only [w', World.freeze]
    rw [if_neg (by decide)]
    simp only [Array.getElem?_modify]
    rw [if_neg (fun h => hk h.symm)]
  have H' : Hp w0 S (L.set i (.blk b cs t)) w' := by
    refine H.turn i hL rfl ?_ rfl rfl rfl (by simp [w', World.freeze]) (fun k _ hk => hoth k (by simpa [Ent.ids] using hk))
    by_cases hlh : lo = hi
    · exact ⟨cs.length, cs.length + 1, by simpa [hlh] using hw', .inr (Nat.le_refl _)⟩
    · refine ⟨min lo cs.length, max hi (cs.length + 1), by simpa [hlh] using hw', .inr ?_⟩
      rcases hf with h | h
      · exact absurd h hlh
      · omega
  have hset : L.set i (.blk b cs t) = L := by
    have hLi : i < L.length := (List.getElem?_eq_some_iff.1 hL).1
    refine List.ext_getElem? (fun k => ?_)
    by_cases hk : i = k
    · subst hk
      rw [List.getElem?_set_self hLi, hL]
    · rw [List.getElem?_set_ne hk]
  rw [hset] at H'
  refine ⟨w', ?_, H'⟩
  simp [convert, run_underlying h1, run_underlying h2, markStringish, shape, freeze, Sem.run, hsh, w']
end
end Go.Proofs.Ytgmggjnoegelgaa
