/- Division of wide numbers, bit by bit: one round of it. Plain arithmetic. -/
import Derived.Test.YtgmggjnoegelgaaWc
namespace Go.Proofs.Ytgmggjnoegelgaa
open Go.RowKit

theorem q64 {n : Nat} (h : n < 4611686018427387904) : IntKind.i64.wrap (Int.tdiv (n : Int) 64) = ((n / 64 : Nat) : Int) := by
  rw [Int.tdiv_eq_ediv_of_nonneg (by omega), in_i64 (by omega)]
  omega
theorem r64 (n : Nat) : Int.tmod (n : Int) 64 = ((n % 64 : Nat) : Int) := by
  rw [Int.tmod_eq_emod_of_nonneg (by omega)]
  omega
theorem wd_cell (x : Nat) {j : Nat} (hj : j < 4) : ([.int .u64 (wd x 0 : Int), .int .u64 (wd x 1 : Int), .int .u64 (wd x 2 : Int), .int .u64 (wd x 3 : Int)] : List Value)[0 + j * 1]? = some (.int .u64 (wd x j : Int)) := by
  match j, hj with
  | 0, _ => rfl
  | 1, _ => rfl
  | 2, _ => rfl
  | 3, _ => rfl
theorem wd_div (x : Nat) {j : Nat} (hj : j < 4) : wd x j = x / 2 ^ (64 * j) % K := by
  match j, hj with
  | 0, _ => show x % K = _; rw [Nat.mul_zero, Nat.pow_zero, Nat.div_one]
  | 1, _ => rfl
  | 2, _ => show x / (K * K) % K = _; rw [show (2 : Nat) ^ (64 * 2) = K * K from by decide]
  | 3, _ => show x / (K * K * K) % K = _; rw [show (2 : Nat) ^ (64 * 3) = K * K * K from by decide]
theorem bit_of {x m : Nat} (hm : m < 256) : wd x (m / 64) / 2 ^ (m % 64) % 2 = x / 2 ^ m % 2 := by
  have he : m % 64 < 64 := Nat.mod_lt _ (by decide)
  have hK : K = 2 ^ (m % 64) * 2 ^ (64 - m % 64) := by rw [Nat.mul_comm, two64 (by omega)]
  rw [wd_div x (by omega), hK, Nat.mod_mul_right_div_self, Nat.div_div_eq_div_mul, ← Nat.pow_add, show 64 * (m / 64) + m % 64 = m from by omega]
  refine Nat.mod_mod_of_dvd _ ?_
  exact ⟨2 ^ (63 - m % 64), by rw [← Nat.pow_succ', show (63 - m % 64).succ = 64 - m % 64 from by omega]⟩
theorem bit_lt {a e : Nat} (ha : a < K) : a / 2 ^ e < K := Nat.lt_of_le_of_lt (Nat.div_le_self _ _) ha
theorem or_bit {a b : Nat} (ha : a % 2 = 0) (haK : a < K) (hb : b < 2) : Go.bits .or .u64 (a : Int) (b : Int) = ((a + b : Nat) : Int) := by
  rw [n_or haK (by simp only [K]; omega)]
  have h := Nat.two_pow_add_eq_or_of_lt (i := 1) (b := b) (by omega) (a / 2)
  rw [show 2 ^ 1 * (a / 2) = a from by omega] at h
  rw [h]
theorem even_wd (R : Nat) : wd (R * 2 ^ 1 % K4) 0 % 2 = 0 := by
  show R * 2 ^ 1 % K4 % K % 2 = 0
  simp only [K, K4]
  omega
theorem even_lt {R b : Nat} (hb : b < 2) : R * 2 ^ 1 % K4 + b < K4 := by
  simp only [K4]
  omega
theorem even_add {E b : Nat} (hE : wd E 0 % 2 = 0) (hK : E < K4) (hb : b < 2) : wd (E + b) 0 = wd E 0 + b ∧ wd (E + b) 1 = wd E 1 ∧ wd (E + b) 2 = wd E 2 ∧ wd (E + b) 3 = wd E 3 := by
  have s := wd_sum E hK
  have b0 := wd_lt E 0
  have h := wd_of (wd E 0 + b) (wd E 1) (wd E 2) (wd E 3) (by simp only [K] at *; omega) (wd_lt _ _) (wd_lt _ _) (wd_lt _ _)
  rwa [show wd E 0 + b + K * wd E 1 + K * K * wd E 2 + K * K * K * wd E 3 = E + b from by omega] at h
theorem mul_bit {Q j e : Nat} (hQ : Q % 2 ^ (64 * j + e + 1) = 0) (hj : j < 4) (he : e < 64) : wd Q j % 2 ^ (e + 1) = 0 := by
  have hK : K = 2 ^ (e + 1) * 2 ^ (64 - (e + 1)) := by rw [Nat.mul_comm, two64 (by omega)]
  rw [wd_div Q hj, hK, Nat.mod_mul_right_mod]
  have h := Nat.mod_mul_right_div_self Q (2 ^ (64 * j)) (2 ^ (e + 1))
  rw [← Nat.pow_add, show 64 * j + (e + 1) = 64 * j + e + 1 from by omega, hQ, Nat.zero_div] at h
  exact h.symm
theorem set_or {a e : Nat} (ha : a % 2 ^ (e + 1) = 0) (haK : a < K) (he : e < 64) : (a ||| 1 * 2 ^ e % K) = a + 2 ^ e ∧ a + 2 ^ e < K := by
  have hlt : 2 ^ e < 2 ^ (e + 1) := Nat.pow_lt_pow_right (by decide) (by omega)
  have heK : 2 ^ e < K := by
    have : 2 ^ e < 2 ^ 64 := Nat.pow_lt_pow_right (by decide) he
    simpa [K] using this
  obtain ⟨t, ht⟩ := Nat.dvd_of_mod_eq_zero ha
  have h := Nat.two_pow_add_eq_or_of_lt (i := e + 1) (b := 2 ^ e) hlt t
  rw [Nat.one_mul, Nat.mod_eq_of_lt heK, ht, ← h]
  refine ⟨rfl, ?_⟩
  have hK : K = 2 ^ (e + 1) * 2 ^ (64 - (e + 1)) := by rw [Nat.mul_comm, two64 (by omega)]
  rw [ht, hK] at haK
  have h1 : t < 2 ^ (64 - (e + 1)) := Nat.lt_of_mul_lt_mul_left haK
  have h2 := Nat.mul_le_mul_left (2 ^ (e + 1)) (show t + 1 ≤ 2 ^ (64 - (e + 1)) from h1)
  rw [Nat.mul_add, Nat.mul_one, ← hK] at h2
  omega
theorem setbit {Q j e : Nat} (hQ : Q % 2 ^ (64 * j + e + 1) = 0) (hK : Q < K4) (hj : j < 4) (he : e < 64) :
    ([.int .u64 (wd Q 0 : Int), .int .u64 (wd Q 1 : Int), .int .u64 (wd Q 2 : Int), .int .u64 (wd Q 3 : Int)] : List Value).set (0 + j * 1) (.int .u64 ((wd Q j ||| 1 * 2 ^ e % K : Nat) : Int)) =
      [.int .u64 (wd (Q + 2 ^ (64 * j + e)) 0 : Int), .int .u64 (wd (Q + 2 ^ (64 * j + e)) 1 : Int), .int .u64 (wd (Q + 2 ^ (64 * j + e)) 2 : Int), .int .u64 (wd (Q + 2 ^ (64 * j + e)) 3 : Int)] := by
  obtain ⟨h1, h2⟩ := set_or (mul_bit hQ hj he) (wd_lt Q j) he
  rw [h1]
  have s := wd_sum Q hK
  have b0 := wd_lt Q 0
  have b1 := wd_lt Q 1
  have b2 := wd_lt Q 2
  have b3 := wd_lt Q 3
  rw [Nat.pow_add]
  generalize 2 ^ e = p at *
  match j, hj with
  | 0, _ =>
    have h := wd_of (wd Q 0 + p) (wd Q 1) (wd Q 2) (wd Q 3) h2 b1 b2 b3
    rw [show wd Q 0 + p + K * wd Q 1 + K * K * wd Q 2 + K * K * K * wd Q 3 = Q + 2 ^ (64 * 0) * p from by rw [show (2 : Nat) ^ (64 * 0) = 1 from rfl]; omega] at h
    rw [h.1, h.2.1, h.2.2.1, h.2.2.2]
    rfl
  | 1, _ =>
    have h := wd_of (wd Q 0) (wd Q 1 + p) (wd Q 2) (wd Q 3) b0 h2 b2 b3
    rw [show wd Q 0 + K * (wd Q 1 + p) + K * K * wd Q 2 + K * K * K * wd Q 3 = Q + 2 ^ (64 * 1) * p from by rw [show (2 : Nat) ^ (64 * 1) = K from by decide]; simp only [K] at *; omega] at h
    rw [h.1, h.2.1, h.2.2.1, h.2.2.2]
    rfl
  | 2, _ =>
    have h := wd_of (wd Q 0) (wd Q 1) (wd Q 2 + p) (wd Q 3) b0 b1 h2 b3
    rw [show wd Q 0 + K * wd Q 1 + K * K * (wd Q 2 + p) + K * K * K * wd Q 3 = Q + 2 ^ (64 * 2) * p from by rw [show (2 : Nat) ^ (64 * 2) = K * K from by decide]; simp only [K] at *; omega] at h
    rw [h.1, h.2.1, h.2.2.1, h.2.2.2]
    rfl
  | 3, _ =>
    have h := wd_of (wd Q 0) (wd Q 1) (wd Q 2) (wd Q 3 + p) b0 b1 b2 h2
    rw [show wd Q 0 + K * wd Q 1 + K * K * wd Q 2 + K * K * K * (wd Q 3 + p) = Q + 2 ^ (64 * 3) * p from by rw [show (2 : Nat) ^ (64 * 3) = K * K * K from by decide]; simp only [K] at *; omega] at h
    rw [h.1, h.2.1, h.2.2.1, h.2.2.2]
    rfl
/-- One round: the number's next bit. -/
theorem half_step (x : Nat) {m : Nat} (hm : 0 < m) : x / 2 ^ (m - 1) = 2 * (x / 2 ^ m) + x / 2 ^ (m - 1) % 2 := by
  have h : x / 2 ^ m = x / 2 ^ (m - 1) / 2 := by rw [Nat.div_div_eq_div_mul, ← Nat.pow_succ, show (m - 1).succ = m from by omega]
  rw [h]
  omega
theorem div_up {X Y y : Nat} {b : Nat} (hy : 0 < y) (hX : X = 2 * Y + b) (hb : b < 2) (hge : y ≤ 2 * (Y % y) + b) : X / y = 2 * (Y / y) + 1 ∧ X % y = 2 * (Y % y) + b - y := by
  have h1 := Nat.div_add_mod Y y
  have h2 := Nat.mod_lt Y hy
  generalize Y / y = q at *
  generalize Y % y = r at *
  have e : X = (2 * r + b - y) + y * (2 * q + 1) := by
    rw [Nat.mul_add, Nat.mul_left_comm]
    omega
  rw [e]
  constructor
  · rw [Nat.add_mul_div_left _ _ hy, Nat.div_eq_of_lt (by omega)]
    omega
  · rw [Nat.add_mul_mod_self_left, Nat.mod_eq_of_lt (by omega)]
theorem div_down {X Y y : Nat} {b : Nat} (hy : 0 < y) (hX : X = 2 * Y + b) (hlt : 2 * (Y % y) + b < y) : X / y = 2 * (Y / y) ∧ X % y = 2 * (Y % y) + b := by
  have h1 := Nat.div_add_mod Y y
  generalize Y / y = q at *
  generalize Y % y = r at *
  have e : X = (2 * r + b) + y * (2 * q) := by
    rw [Nat.mul_left_comm]
    omega
  rw [e]
  constructor
  · rw [Nat.add_mul_div_left _ _ hy, Nat.div_eq_of_lt hlt]
    omega
  · rw [Nat.add_mul_mod_self_left, Nat.mod_eq_of_lt hlt]
theorem high_bit {R : Nat} (hR : R < K4) : ((((wd R 3 / 2 ^ 63 : Nat) : Int) == 1) = true) ↔ K4 ≤ 2 * R := by
  have s := wd_sum R hR
  have b0 := wd_lt R 0
  have b1 := wd_lt R 1
  have b2 := wd_lt R 2
  have b3 := wd_lt R 3
  generalize wd R 0 = a at *
  generalize wd R 1 = b at *
  generalize wd R 2 = c at *
  generalize wd R 3 = d at *
  rw [beq_iff_eq]
  simp only [K, K4] at *
  omega
theorem cmp_ge {x y : Nat} : 0 ≤ cmpN x y ↔ y ≤ x := by
  unfold cmpN
  split
  · omega
  · split <;> omega
theorem pow_half {m : Nat} (hm : 0 < m) : 2 ^ m = 2 * 2 ^ (m - 1) := by rw [← Nat.pow_succ', show (m - 1).succ = m from by omega]
theorem round_up {x y m R Q E D F : Nat} (hy : 0 < y) (hy4 : y < K4) (hm0 : 0 < m) (hR : R = x / 2 ^ m % y) (hQ : Q = x / 2 ^ m / y * 2 ^ m) (hE : E = R * 2 ^ 1 % K4) (hD : D = E + x / 2 ^ (m - 1) % 2) (hF : F = (D + K4 - y) % K4)
    (h : K4 ≤ 2 * R ∨ ¬ K4 ≤ 2 * R ∧ y ≤ D) : x / 2 ^ (m - 1) / y * 2 ^ (m - 1) = Q + 2 ^ (m - 1) ∧ x / 2 ^ (m - 1) % y = F := by
  have hs := half_step x hm0
  have hb : x / 2 ^ (m - 1) % 2 < 2 := Nat.mod_lt _ (by decide)
  have hRy : R < y := by rw [hR]; exact Nat.mod_lt _ hy
  generalize hbb : x / 2 ^ (m - 1) % 2 = b at *
  have hge : y ≤ 2 * (x / 2 ^ m % y) + b := by
    rw [← hR]
    simp only [K4] at *
    omega
  obtain ⟨h1, h2⟩ := div_up hy hs hb hge
  rw [← hR] at h2
  refine ⟨?_, ?_⟩
  · rw [h1, hQ, pow_half hm0, Nat.add_mul, Nat.one_mul, Nat.mul_left_comm, Nat.mul_assoc]
  · rw [h2, hF]
    simp only [K4] at *
    omega
theorem round_down {x y m R Q E D : Nat} (hy : 0 < y) (hm0 : 0 < m) (hR : R = x / 2 ^ m % y) (hQ : Q = x / 2 ^ m / y * 2 ^ m) (hE : E = R * 2 ^ 1 % K4) (hD : D = E + x / 2 ^ (m - 1) % 2)
    (h1 : ¬ K4 ≤ 2 * R) (h2 : ¬ y ≤ D) : x / 2 ^ (m - 1) / y * 2 ^ (m - 1) = Q ∧ x / 2 ^ (m - 1) % y = D := by
  have hs := half_step x hm0
  have hb : x / 2 ^ (m - 1) % 2 < 2 := Nat.mod_lt _ (by decide)
  generalize hbb : x / 2 ^ (m - 1) % 2 = b at *
  have hD2 : D = 2 * R + b := by
    simp only [K4] at *
    omega
  obtain ⟨h3, h4⟩ := div_down hy hs (by rw [← hR, ← hD2]; omega)
  rw [← hR] at h4
  refine ⟨?_, by rw [h4, hD2]⟩
  rw [h3, hQ, pow_half hm0, Nat.mul_left_comm, Nat.mul_assoc]
end Go.Proofs.Ytgmggjnoegelgaa
