/- Structs of whole numbers held against each other; calls that turn a block of the caller's. Plain laws over any program. -/
import Derived.Test.YtgmggjnoegelgaaNb
import Derived.Test.YtgmggjnoegelgaaGg
namespace Go.Proofs.Ytgmggjnoegelgaa
open Go.RowKit

section
variable {P : Program} {w0 w w' : World} {S : List Nat} {L : List Ent}
theorem run_eqFieldsInts {k : IntKind} (d : Nat) (xs ys : List Int) (hl : xs.length = ys.length) : ∀ fs : List Field, (∀ f ∈ fs, f.name ≠ "_" ∧ f.offset < xs.length ∧ ∃ k', P.underlying f.type = some (.int k')) →
    (Op.eqFields (d + 1) (ints k xs).toArray (ints k ys).toArray fs).run P w = .ok (fs.all fun f => xs.getD f.offset 0 == ys.getD f.offset 0) w
  | [], _ => rfl
  | f :: fs, h => by
    obtain ⟨hn, ho, k', hk⟩ := h f (by simp)
    have ih := run_eqFieldsInts (k := k) d xs ys hl fs (fun g hg => h g (by simp [hg]))
    have h1 := run_part_int (w := w) (k := k) hk xs ho
    have h2 := run_part_int (w := w) (k := k) hk ys (show f.offset < ys.length by omega)
    rw [Nat.mul_one] at h1 h2
    simp only [Op.eqFields, if_pos hn, Sem.run_bind, h1, h2, Result.andThen_ok, run_equalIn_int (P := P) w d f.type k k' _ _ hk, List.all_cons]
    cases (xs.getD f.offset 0 == ys.getD f.offset 0) with
    | false => rfl
    | true => simpa using ih
/-- A struct type of n whole numbers, of one cell each. -/
def stInt (P : Program) (t : TypeId) : Option Nat :=
  match P.underlying t with
  | some (.struct fs) =>
    if (fs.toList.all fun f => f.name != "_" && (match P.underlying f.type with | some (.int _) => true | _ => false)) = true ∧ fs.toList.map (·.offset) = List.range fs.size ∧ P.stoodInHeld t = false ∧ P.eqGuardType P.depth t = false then some fs.size else none
  | _ => none
theorem run_stEq {t n : Nat} {k : IntKind} (ht : stInt P t = some n) (xs ys : List Int) (hx : xs.length = n) (hy : ys.length = n) (w : World) :
    (Op.equalIn 10000 t (.agg (ints k xs).toArray) (.agg (ints k ys).toArray)).run P w = .ok (decide (xs = ys)) w ∧ P.eqGuardType P.depth t = false := by
  unfold stInt at ht
  split at ht
  · rename_i fs hu
    split at ht
    · rename_i hc
      obtain ⟨h1, h2, h3, h4⟩ := hc
      injection ht with ht
      have hf : P.fieldsOf t = fs := by simp [Program.fieldsOf, hu]
      refine ⟨?_, h4⟩
      rw [run_equalIn_struct (w := w) 9999 t _ _ (by rw [hf]; exact hu) h3, hf]
      rw [run_eqFieldsInts 9998 xs ys (by omega) fs.toList ?_]
      · have e : (fs.toList.all fun f => xs.getD f.offset 0 == ys.getD f.offset 0) = (fs.toList.map (·.offset)).all fun i => xs.getD i 0 == ys.getD i 0 := by
          rw [List.all_map]
          rfl
        rw [e, h2, ht, ← hx, all_range_eq xs ys (by omega)]
      · intro f hf
        have h5 := List.all_eq_true.1 h1 f hf
        simp only [Bool.and_eq_true, bne_iff_ne, ne_eq] at h5
        refine ⟨h5.1, ?_, ?_⟩
        · have : f.offset ∈ fs.toList.map (·.offset) := List.mem_map.2 ⟨f, hf, rfl⟩
          rw [h2] at this
          have := List.mem_range.1 this
          omega
        · have h6 := h5.2
          split at h6
          · rename_i k' hk
            exact ⟨k', hk⟩
          · cases h6
    · cases ht
  · cases ht
theorem run_st_eql {t n : Nat} {k : IntKind} {x y : Operand} (ht : stInt P t = some n) (xs ys : List Int) (hx : xs.length = n) (hy : ys.length = n) (w : World) :
    (do eqGuard .eql t x y (.agg (ints k xs).toArray) (.agg (ints k ys).toArray); binOp .eql t (.agg (ints k xs).toArray) (.agg (ints k ys).toArray) : Sem Value).run P w = .ok (.bool (decide (xs = ys))) w := by
  obtain ⟨h1, hg⟩ := run_stEq (k := k) ht xs ys hx hy w
  simp only [Sem.run_bind, run_eqGuard_agg w .eql t x y _ _ hg, Result.andThen_ok, run_eql_struct, h1]
theorem run_st_neq {t n : Nat} {k : IntKind} {x y : Operand} (ht : stInt P t = some n) (xs ys : List Int) (hx : xs.length = n) (hy : ys.length = n) (w : World) :
    (do eqGuard .neq t x y (.agg (ints k xs).toArray) (.agg (ints k ys).toArray); binOp .neq t (.agg (ints k xs).toArray) (.agg (ints k ys).toArray) : Sem Value).run P w = .ok (.bool (!decide (xs = ys))) w := by
  obtain ⟨h1, hg⟩ := run_stEq (k := k) ht xs ys hx hy w
  simp only [Sem.run_bind, run_eqGuard_agg w .neq t x y _ _ hg, Result.andThen_ok, run_neq_struct, h1]

theorem run_remN {t : TypeId} {a b v : Nat} (hb : b ≠ 0) (hv : v = a % b) (w : World) : (binOp .rem t (.int .u64 (a : Int)) (.int .u64 (b : Int))).run P w = .ok (.int .u64 (v : Int)) w := by
  rw [run_rem (by omega), n_rem, ← hv]
/-- A call begins that knows one block of its caller's. -/
theorem Hp.startBlk {b : Nat} {cs : List Value} {t : TypeId} (h : Blk w b cs t) : Hp w [b] [.blk b cs t] w :=
  ⟨rfl, rfl, rfl, Nat.le_refl _, fun _ _ _ => rfl, fun e he => by rw [List.mem_singleton.1 he]; exact h, fun k hk => by simp [ids, Ent.ids] at hk; exact .inr (by simp [hk]), by simp [ids, Ent.ids]⟩
/-- It ends: the block is turned, all else stays. -/
theorem Hp.callIn (H : Hp w0 S L w) (i : Nat) {b : Nat} {cs cs' : List Value} {t : TypeId} (hL : L[i]? = some (.blk b cs t)) (H' : Hp w [b] [.blk b cs' t] w') : Hp w0 S (L.set i (.blk b cs' t)) w' :=
  H.turn i hL rfl (H'.ents _ (by simp)) H'.os H'.tape H'.output H'.size (fun k hk hb => H'.keep k hk (by simpa [Ent.ids] using hb))
end
end Go.Proofs.Ytgmggjnoegelgaa
