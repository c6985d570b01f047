/- Slices of words that came in. Plain laws over any program. -/
import Derived.Test.YtgbhiklengafiaaNb
import Derived.Test.YtgbhiklengafiaaGh
namespace Go.Proofs.Ytgbhiklengafiaa
open Go.RowKit Go.ChangeShapes Go.WideShapes Go.ChangeAt
section
variable {H : Type} {enc : TypeId × Value → H} {P : Program} {w : World} {sp : Nat → Bool} {held : Bool}
theorem open_u64s {t e : TypeId} {fuel : Nat} {cs : List Value} {x : DataW H × List MemPlace} (ht : P.underlying t = some (.slice e)) (he : P.underlying e = some (.int .u64)) (hc : P.cellsOf e = 1)
    (h : DataW.trod enc P w 0 sp held fuel t cs = some x) : ∃ (A : Option Addr) (ls : List Nat) (c : Nat), cs = [.slice A ls.length c] ∧ RdS w A (dg ls) ∧ (∀ x ∈ ls, x < 18446744073709551616) ∧ ls.length ≤ c ∧ c ≤ maxLen := by
  rcases open_ints ht he hc h with ⟨rfl, _⟩ | ⟨a, len, cap, zs, rfl, _, hl, hm, hz, _, hcell, hwz⟩
  · exact ⟨none, [], 0, rfl, .inl rfl, by simp, Nat.le_refl _, Nat.zero_le _⟩
  · have hzl : len ≤ zs.length := by rw [hz]; split <;> omega
    have hwf : ∀ z ∈ zs.take len, (0 : Int) ≤ z ∧ z < 18446744073709551616 := by
      intro z hz'
      have := hwz z (List.mem_of_mem_take hz')
      simp [Lit.wf, IntKind.min, IntKind.max, IntKind.signed, IntKind.bits] at this
      omega
    refine ⟨some a, (zs.take len).map Int.toNat, cap, by simp [Nat.min_eq_left hzl], ?_, ?_, by simp [Nat.min_eq_left hzl]; omega, hm⟩
    · have hx : dg ((zs.take len).map Int.toNat) = (zs.take len).map fun z => Value.int .u64 z := by
        simp only [dg, List.map_map]
        refine List.map_congr_left fun z hz' => ?_
        have := hwf z hz'
        simp only [Function.comp]
        rw [Int.toNat_of_nonneg this.1]
      rw [hx]
      by_cases h0 : len = 0
      · exact .inl (by simp [h0])
      · refine .inr ⟨a, rfl, ?_, fun j v hv => ?_⟩
        · have := hcell 0 (by omega)
          have h2 : (a.add 0) = a := by simp [Addr.add]
          rw [h2] at this
          exact block_lt_of_cell this
        · have hj : j < len := by
            have := (List.getElem?_eq_some_iff.1 hv).1
            simp at this
            omega
          have h1 := hcell j (by omega)
          rw [h1]
          have hv' : some (Value.int .u64 (zs.getD j 0)) = ((zs.take len).map fun z => Value.int .u64 z)[j]? := by
            rw [List.getElem?_map, List.getElem?_take_of_lt hj, List.getD, List.getElem?_eq_getElem (by omega)]
            rfl
          rw [← hv, ← hv']
    · intro y hy
      obtain ⟨z, hz', rfl⟩ := List.mem_map.1 hy
      have := hwf z hz'
      omega
end
end Go.Proofs.Ytgbhiklengafiaa
