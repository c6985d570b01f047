/- Parts of amounts: what package money answers, in plain numbers. -/
import Derived.Test.YtgmggjnoegelgaaWr
namespace Go.Proofs.Ytgmggjnoegelgaa
open Go.RowKit

/-- The greatest amount. -/
abbrev MX : Nat := 4611686018427387904
/-- A wide number as one word, if it is one. -/
def oneW (x : Nat) : Nat := if x < K then x else 0
theorem oneW_cases (x : Nat) : (x < K ∧ oneW x = x) ∨ (K ≤ x ∧ oneW x = 0) := by
  unfold oneW
  split
  · exact .inl ⟨by assumption, rfl⟩
  · exact .inr ⟨by omega, rfl⟩
/-- The part a * u / d, rounded down, or up. -/
def partQ (a u d : Nat) (m : Bool) : Nat := a * u / d + if m = true ∧ a * u % d ≠ 0 then 1 else 0
def partE (a u d : Nat) (m : Bool) : Nat := if MX < a then 1 else if d = 0 then 5 else if MX < partQ a u d m then 4 else 0
def partV (a u d : Nat) (m : Bool) : Nat := if partE a u d m = 0 then partQ a u d m else 0
theorem part_arg {a u d : Nat} {m : Bool} (h : MX < a) : partE a u d m = 1 ∧ partV a u d m = 0 := by
  have e : partE a u d m = 1 := by rw [partE, if_pos h]
  exact ⟨e, by rw [partV, e]; rfl⟩
theorem part_zero {a u d : Nat} {m : Bool} (h : ¬ MX < a) (hd : d = 0) : partE a u d m = 5 ∧ partV a u d m = 0 := by
  have e : partE a u d m = 5 := by rw [partE, if_neg h, if_pos hd]
  exact ⟨e, by rw [partV, e]; rfl⟩
theorem part_over {a u d : Nat} {m : Bool} (h : ¬ MX < a) (hd : d ≠ 0) (hq : MX < partQ a u d m) : partE a u d m = 4 ∧ partV a u d m = 0 := by
  have e : partE a u d m = 4 := by rw [partE, if_neg h, if_neg hd, if_pos hq]
  exact ⟨e, by rw [partV, e]; rfl⟩
theorem part_ok {a u d : Nat} {m : Bool} (h : ¬ MX < a) (hd : d ≠ 0) (hq : ¬ MX < partQ a u d m) : partE a u d m = 0 ∧ partV a u d m = partQ a u d m := by
  have e : partE a u d m = 0 := by rw [partE, if_neg h, if_neg hd, if_neg hq]
  exact ⟨e, by rw [partV, e]; rfl⟩
theorem partV_le (a u d : Nat) (m : Bool) : partV a u d m ≤ MX := by
  unfold partV
  split
  · rename_i h
    unfold partE at h
    split at h
    · cases h
    · split at h
      · cases h
      · split at h
        · cases h
        · omega
  · exact Nat.zero_le _
theorem partE_cases (a u d : Nat) (m : Bool) : (partE a u d m = 1 ∧ MX < a) ∨ (partE a u d m = 5 ∧ ¬ MX < a ∧ d = 0) ∨ (partE a u d m = 4 ∧ ¬ MX < a ∧ d ≠ 0 ∧ MX < partQ a u d m) ∨ (partE a u d m = 0 ∧ ¬ MX < a ∧ d ≠ 0 ∧ ¬ MX < partQ a u d m ∧ partV a u d m = partQ a u d m) := by
  by_cases h : MX < a
  · exact .inl ⟨(part_arg h).1, h⟩
  by_cases hd : d = 0
  · exact .inr (.inl ⟨(part_zero h hd).1, h, hd⟩)
  by_cases hq : MX < partQ a u d m
  · exact .inr (.inr (.inl ⟨(part_over h hd hq).1, h, hd, hq⟩))
  · exact .inr (.inr (.inr ⟨(part_ok h hd hq).1, h, hd, hq, (part_ok h hd hq).2⟩))
theorem partQ_down (a u d : Nat) : partQ a u d false = a * u / d := by simp [partQ]
theorem partQ_up (a u d : Nat) : partQ a u d true = a * u / d ∨ partQ a u d true = a * u / d + 1 := by
  unfold partQ
  split
  · exact .inr rfl
  · exact .inl rfl
theorem rounds (a b u d : Nat) :
    (partE a u d false = 0 → partE a u d true = 0 → partV a u d true = partV a u d false ∨ partV a u d true = partV a u d false + 1) ∧ (partE a u d true = 0 → partE a u d false = 0) ∧
    (partE a u d false = partE a u d true ∨ partE a u d true = 4) ∧ (partE a u d false = 0 → partE b u d false = 0 → a ≤ b → partV a u d false ≤ partV b u d false) := by
  have h1 := partE_cases a u d false
  have h2 := partE_cases a u d true
  have h3 := partE_cases b u d false
  have e1 := partQ_down a u d
  have e3 := partQ_down b u d
  have e2 := partQ_up a u d
  refine ⟨by omega, by omega, by omega, fun x y hab => ?_⟩
  have : a * u / d ≤ b * u / d := Nat.div_le_div_right (Nat.mul_le_mul_right _ hab)
  omega
theorem partQ_one {a u d : Nat} (h : a * u % d ≠ 0) : partQ a u d true = a * u / d + 1 := by rw [partQ, if_pos ⟨rfl, h⟩]
theorem partQ_none {a u d : Nat} (h : a * u % d = 0) : partQ a u d true = a * u / d := by rw [partQ, if_neg (fun q => q.2 h), Nat.add_zero]
theorem part_any (a u d : Nat) (m : Bool) : (partE a u d m = 0 ∧ partV a u d m = partQ a u d m) ∨ partV a u d m = 0 := by
  unfold partV
  split
  · exact .inl ⟨by assumption, rfl⟩
  · exact .inr rfl
theorem part_bound {a u d : Nat} (ha : a ≤ MX) (hu : u < K) : a * u / d + 1 < K4 := by
  have h1 : a * u ≤ MX * K := Nat.mul_le_mul ha (by omega)
  have h2 := Nat.div_le_self (a * u) d
  have h3 : MX * K + 1 < K4 := by decide
  omega
end Go.Proofs.Ytgmggjnoegelgaa
