/- Numbers of four words, moved by bits. Plain arithmetic. -/
import Derived.Test.YtgmggjnoegelgaaWb
namespace Go.Proofs.Ytgmggjnoegelgaa
open Go.RowKit

section
variable {P : Program}
theorem run_shlN {t : TypeId} {k' : IntKind} {a r : Nat} (hr : r ≤ 64) (w : World) : (binOp .shl t (.int .u64 (a : Int)) (.int k' (r : Int))).run P w = .ok (.int .u64 ((a * 2 ^ r % K : Nat) : Int)) w := by
  rw [run_shl rfl (by omega), show min ((r : Int)).toNat IntKind.u64.bits = r from by simp only [IntKind.bits]; omega, n_shl]
theorem run_shrN {t : TypeId} {k' : IntKind} {a r : Nat} (hr : r ≤ 64) (w : World) : (binOp .shr t (.int .u64 (a : Int)) (.int k' (r : Int))).run P w = .ok (.int .u64 ((a / 2 ^ r : Nat) : Int)) w := by
  rw [run_shr rfl (by omega), show min ((r : Int)).toNat IntKind.u64.bits = r from by simp only [IntKind.bits]; omega, n_shr]
theorem run_quo64 {t : TypeId} {n q r : Nat} (h : n = 64 * q + r) (hr : r < 64) (hq : n < 2 ^ 62) (w : World) : (binOp .quo t (.int .i64 (n : Int)) (.int .i64 64)).run P w = .ok (.int .i64 (q : Int)) w := by
  rw [run_quo (by decide), Int.tdiv_eq_ediv_of_nonneg (by omega), in_i64 (by omega)]
  congr 2
  omega
theorem run_rem64 {t : TypeId} {n q r : Nat} (h : n = 64 * q + r) (hr : r < 64) (w : World) : (binOp .rem t (.int .i64 (n : Int)) (.int .i64 64)).run P w = .ok (.int .i64 (r : Int)) w := by
  rw [run_rem (by decide), Int.tmod_eq_emod_of_nonneg (by omega)]
  congr 2
  omega
end
theorem two64 {r : Nat} (hr : r ≤ 64) : 2 ^ (64 - r) * 2 ^ r = K := by
  rw [← Nat.pow_add, show 64 - r + r = 64 from by omega]
theorem shl_parts {a b r : Nat} (hb : b < K) (hr : r ≤ 64) : b / 2 ^ (64 - r) = b * 2 ^ r / K ∧ a * 2 ^ r % K = 2 ^ r * (a % 2 ^ (64 - r)) ∧ b / 2 ^ (64 - r) < 2 ^ r := by
  have hK := two64 hr
  refine ⟨?_, ?_, ?_⟩
  · rw [← hK, Nat.mul_div_mul_right _ _ (Nat.two_pow_pos r)]
  · rw [← hK, Nat.mul_mod_mul_right, Nat.mul_comm]
  · rw [Nat.div_lt_iff_lt_mul (Nat.two_pow_pos _), Nat.mul_comm, hK]
    exact hb
theorem shl_lt {a b r : Nat} (hb : b < K) (hr : r ≤ 64) : a * 2 ^ r % K + b * 2 ^ r / K < K := by
  obtain ⟨h1, h2, h3⟩ := shl_parts (a := a) hb hr
  rw [← h1, h2, ← two64 hr]
  have h4 : a % 2 ^ (64 - r) + 1 ≤ 2 ^ (64 - r) := Nat.mod_lt _ (Nat.two_pow_pos _)
  have h5 := Nat.mul_le_mul_left (2 ^ r) h4
  rw [Nat.mul_add, Nat.mul_one] at h5
  rw [Nat.mul_comm (2 ^ (64 - r))]
  omega
theorem or_shift {a b r : Nat} (hb : b < K) (hr : r ≤ 64) : Go.bits .or .u64 ((a * 2 ^ r % K : Nat) : Int) ((b / 2 ^ (64 - r) : Nat) : Int) = ((a * 2 ^ r % K + b * 2 ^ r / K : Nat) : Int) := by
  obtain ⟨h1, h2, h3⟩ := shl_parts (a := a) hb hr
  rw [n_or (Nat.mod_lt _ (by decide)) (Nat.lt_of_le_of_lt (Nat.div_le_self _ _) hb), ← h1, h2, Nat.two_pow_add_eq_or_of_lt h3]
/-- The four words of x * 2^r, and what goes beyond. -/
theorem shl_sum {x r : Nat} (hx : x < K4) : x * 2 ^ r = wd x 0 * 2 ^ r % K + K * (wd x 1 * 2 ^ r % K + wd x 0 * 2 ^ r / K) + K * K * (wd x 2 * 2 ^ r % K + wd x 1 * 2 ^ r / K) + K * K * K * (wd x 3 * 2 ^ r % K + wd x 2 * 2 ^ r / K) + K4 * (wd x 3 * 2 ^ r / K) := by
  rw [mul4 (y := 2 ^ r) (wd_sum x hx)]
  generalize wd x 0 * 2 ^ r = p0
  generalize wd x 1 * 2 ^ r = p1
  generalize wd x 2 * 2 ^ r = p2
  generalize wd x 3 * 2 ^ r = p3
  simp only [K, K4]
  omega
theorem left_fin0 {x r : Nat} (hx : x < K4) (hr : r ≤ 64) : (.agg #[.int .u64 ((wd x 0 * 2 ^ r % K : Nat) : Int), .int .u64 ((wd x 1 * 2 ^ r % K + wd x 0 * 2 ^ r / K : Nat) : Int), .int .u64 ((wd x 2 * 2 ^ r % K + wd x 1 * 2 ^ r / K : Nat) : Int), .int .u64 ((wd x 3 * 2 ^ r % K + wd x 2 * 2 ^ r / K : Nat) : Int)] : Value) = wv (x * 2 ^ r % K4) := by
  have b0 : wd x 0 * 2 ^ r % K < K := Nat.mod_lt _ (by decide)
  have b1 := shl_lt (a := wd x 1) (wd_lt x 0) hr
  have b2 := shl_lt (a := wd x 2) (wd_lt x 1) hr
  have b3 := shl_lt (a := wd x 3) (wd_lt x 2) hr
  exact wv_of b0 b1 b2 b3 (mod_K4 (shl_sum hx) (wv_lt b0 b1 b2 b3))
theorem shl_none (a : Nat) (ha : a < K) : a * 2 ^ 0 / K = 0 := by rw [Nat.pow_zero, Nat.mul_one, Nat.div_eq_of_lt ha]
theorem left_fin0' {x r : Nat} (hx : x < K4) (hr : r = 0) : (.agg #[.int .u64 ((wd x 0 * 2 ^ r % K : Nat) : Int), .int .u64 ((wd x 1 * 2 ^ r % K : Nat) : Int), .int .u64 ((wd x 2 * 2 ^ r % K : Nat) : Int), .int .u64 ((wd x 3 * 2 ^ r % K : Nat) : Int)] : Value) = wv (x * 2 ^ r % K4) := by
  subst hr
  rw [← left_fin0 hx (by decide)]
  simp only [shl_none _ (wd_lt x _), Nat.add_zero]
end Go.Proofs.Ytgmggjnoegelgaa
