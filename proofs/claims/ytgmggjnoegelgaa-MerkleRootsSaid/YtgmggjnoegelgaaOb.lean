/- Structs of whole numbers of several kinds held against each other. Plain laws over any program. -/
import Derived.Test.YtgmggjnoegelgaaNc
import Derived.Test.YtgmggjnoegelgaaOa
namespace Go.Proofs.Ytgmggjnoegelgaa
open Go.RowKit

def iv : Value → Int
  | .int _ a => a
  | _ => 0
def kd : Value → Option IntKind
  | .int k _ => some k
  | _ => none
section
variable {P : Program} {w : World}
theorem run_part_iv {e : TypeId} {k' : IntKind} (he : P.underlying e = some (.int k')) (cs : List Value) {i : Nat} {v : Value} (hv : cs[i]? = some v) : (part e cs.toArray i).run P w = .ok v w := by
  have h1 : (isAgg e).run P w = .ok false w := by
    unfold isAgg
    rw [Sem.run_bind, run_underlying he w]
    rfl
  simp [part, h1, hv]
theorem run_eqFieldsM (d : Nat) (cs ds : List Value) (hl : cs.length = ds.length) (hk : cs.map kd = ds.map kd) (hi : ∀ v ∈ cs, (kd v).isSome = true) : ∀ fs : List Field, (∀ f ∈ fs, f.name ≠ "_" ∧ f.offset < cs.length ∧ ∃ k', P.underlying f.type = some (.int k')) →
    (Op.eqFields (d + 1) cs.toArray ds.toArray fs).run P w = .ok (fs.all fun f => (cs.map iv).getD f.offset 0 == (ds.map iv).getD f.offset 0) w
  | [], _ => rfl
  | f :: fs, h => by
    obtain ⟨hn, ho, k', hk'⟩ := h f (by simp)
    have ih := run_eqFieldsM d cs ds hl hk hi fs (fun g hg => h g (by simp [hg]))
    have e1 : cs[f.offset]? = some cs[f.offset] := List.getElem?_eq_getElem ho
    have e2 : ds[f.offset]? = some ds[f.offset] := List.getElem?_eq_getElem (by omega)
    have hkk : kd cs[f.offset] = kd ds[f.offset] := by
      have := congrArg (fun l => l[f.offset]?) hk
      simpa [e1, e2] using this
    have h1 := run_part_iv (w := w) hk' cs e1
    have h2 := run_part_iv (w := w) hk' ds e2
    have hs := hi cs[f.offset] (List.getElem_mem ho)
    have g1 : (cs.map iv).getD f.offset 0 = iv cs[f.offset] := by simp [List.getD_eq_getElem?_getD, e1]
    have g2 : (ds.map iv).getD f.offset 0 = iv ds[f.offset] := by simp [List.getD_eq_getElem?_getD, e2]
    generalize cs[f.offset] = a at *
    generalize ds[f.offset] = b at *
    cases a <;> simp [kd] at hs
    rename_i ka xa
    cases b <;> simp [kd] at hkk
    rename_i kb xb
    subst hkk
    simp only [Op.eqFields, if_pos hn, Sem.run_bind, h1, h2, Result.andThen_ok, run_equalIn_int (P := P) w d f.type ka k' _ _ hk', List.all_cons, g1, g2, iv]
    cases (xa == xb) with
    | false => rfl
    | true => simpa using ih
theorem run_stEqM {t n : Nat} (ht : stInt P t = some n) (cs ds : List Value) (hc : cs.length = n) (hd : ds.length = n) (hk : cs.map kd = ds.map kd) (hi : (cs.all fun v => (kd v).isSome) = true) (w : World) :
    (Op.equalIn 10000 t (.agg cs.toArray) (.agg ds.toArray)).run P w = .ok (decide (cs.map iv = ds.map iv)) w ∧ P.eqGuardType P.depth t = false := by
  unfold stInt at ht
  split at ht
  · rename_i fs hu
    split at ht
    · rename_i hcc
      obtain ⟨h1, h2, h3, h4⟩ := hcc
      injection ht with ht
      have hf : P.fieldsOf t = fs := by simp [Program.fieldsOf, hu]
      refine ⟨?_, h4⟩
      rw [run_equalIn_struct (w := w) 9999 t _ _ (by rw [hf]; exact hu) h3, hf]
      rw [run_eqFieldsM 9998 cs ds (by omega) hk (fun v hv => List.all_eq_true.1 hi v hv) fs.toList ?_]
      · have e : (fs.toList.all fun f => (cs.map iv).getD f.offset 0 == (ds.map iv).getD f.offset 0) = (fs.toList.map (·.offset)).all fun i => (cs.map iv).getD i 0 == (ds.map iv).getD i 0 := by
          rw [List.all_map]
          rfl
        rw [e, h2, ht, ← hc, show List.range cs.length = List.range (cs.map iv).length by rw [List.length_map], all_range_eq (cs.map iv) (ds.map iv) (by simp; omega)]
      · intro f hf
        have h5 := List.all_eq_true.1 h1 f hf
        simp only [Bool.and_eq_true, bne_iff_ne, ne_eq] at h5
        refine ⟨h5.1, ?_, ?_⟩
        · have : f.offset ∈ fs.toList.map (·.offset) := List.mem_map.2 ⟨f, hf, rfl⟩
          rw [h2] at this
          have := List.mem_range.1 this
          omega
        · have h6 := h5.2
          split at h6
          · rename_i k' hk
            exact ⟨k', hk⟩
          · cases h6
    · cases ht
  · cases ht
theorem run_mx_eql {t n : Nat} {x y : Operand} (ht : stInt P t = some n) (cs ds : List Value) (hc : cs.length = n) (hd : ds.length = n) (hk : cs.map kd = ds.map kd) (hi : (cs.all fun v => (kd v).isSome) = true) (w : World) :
    (do eqGuard .eql t x y (.agg cs.toArray) (.agg ds.toArray); binOp .eql t (.agg cs.toArray) (.agg ds.toArray) : Sem Value).run P w = .ok (.bool (decide (cs.map iv = ds.map iv))) w := by
  obtain ⟨h1, hg⟩ := run_stEqM ht cs ds hc hd hk hi w
  simp only [Sem.run_bind, run_eqGuard_agg w .eql t x y _ _ hg, Result.andThen_ok, run_eql_struct, h1]
theorem run_mx_neq {t n : Nat} {x y : Operand} (ht : stInt P t = some n) (cs ds : List Value) (hc : cs.length = n) (hd : ds.length = n) (hk : cs.map kd = ds.map kd) (hi : (cs.all fun v => (kd v).isSome) = true) (w : World) :
    (do eqGuard .neq t x y (.agg cs.toArray) (.agg ds.toArray); binOp .neq t (.agg cs.toArray) (.agg ds.toArray) : Sem Value).run P w = .ok (.bool (!decide (cs.map iv = ds.map iv))) w := by
  obtain ⟨h1, hg⟩ := run_stEqM ht cs ds hc hd hk hi w
  simp only [Sem.run_bind, run_eqGuard_agg w .neq t x y _ _ hg, Result.andThen_ok, run_neq_struct, h1]
end
theorem u8_arg {n : Int} (h : (Lit.int .u8 n).wf = true) : ∃ b : UInt8, n = (b.toNat : Int) := by
  simp [Lit.wf, IntKind.min, IntKind.max, IntKind.signed, IntKind.bits] at h
  exact ⟨UInt8.ofNat n.toNat, by rw [u8_ofNat]; omega⟩
theorem u32_arg {n : Int} (h : (Lit.int .u32 n).wf = true) : ∃ m : Nat, n = (m : Int) ∧ m < 4294967296 := by
  simp [Lit.wf, IntKind.min, IntKind.max, IntKind.signed, IntKind.bits] at h
  exact ⟨n.toNat, by omega, by omega⟩
theorem get_lt (wr : Bool) (rest : List UInt8) (n : Nat) : getB (rV wr rest n) < 256 ^ n := Nat.lt_of_lt_of_le (getB_lt _) (Nat.pow_le_pow_right (by decide) (rV_le wr rest n))
end Go.Proofs.Ytgmggjnoegelgaa
