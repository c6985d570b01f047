/- Wide numbers moved by any number of bits; their bytes. Plain arithmetic. -/
import Derived.Test.YtdepaaphgfapjaaNc
namespace Go.Proofs.Ytdepaaphgfapjaa
open Go.RowKit

theorem wd_sum3 (x : Nat) : x = wd x 0 + K * wd x 1 + K * K * wd x 2 + K * K * K * (x / (K * K * K)) := by
  have h2 : wd x 2 = x / (K * K) % K := rfl
  have h1 : wd x 1 = x / K % K := rfl
  have h0 : wd x 0 = x % K := rfl
  have e1 : x / (K * K) = x / K / K := (Nat.div_div_eq_div_mul x K K).symm
  have e2 : x / (K * K * K) = x / K / K / K := by rw [← Nat.div_div_eq_div_mul, ← Nat.div_div_eq_div_mul]
  rw [h0, h1, h2, e1, e2]
  generalize hy : x / K = y
  generalize hz : y / K = z
  generalize hu : z / K = u
  simp only [K] at *
  omega
theorem wv_cells {a b c d : Value} {X : Nat} (h : (.agg #[a, b, c, d] : Value) = wv X) : a = .int .u64 (wd X 0 : Int) ∧ b = .int .u64 (wd X 1 : Int) ∧ c = .int .u64 (wd X 2 : Int) ∧ d = .int .u64 (wd X 3 : Int) := by
  injection h with h
  have h : ([a, b, c, d] : List Value) = [.int .u64 (wd X 0 : Int), .int .u64 (wd X 1 : Int), .int .u64 (wd X 2 : Int), .int .u64 (wd X 3 : Int)] := congrArg Array.toList h
  simpa using h
theorem wv_up {a b c d : Value} {X : Nat} (h : (.agg #[a, b, c, d] : Value) = wv X) : (.agg #[.int .u64 0, a, b, c] : Value) = wv (X * K % K4) := by
  obtain ⟨rfl, rfl, rfl, rfl⟩ := wv_cells h
  have b0 := wd_lt X 0
  have b1 := wd_lt X 1
  have b2 := wd_lt X 2
  refine wv_of (a := 0) (by decide) b0 b1 b2 ?_
  have s := wd_sum3 X
  refine mod_K4 (c := X / (K * K * K)) ?_ (wv_lt (by decide) b0 b1 b2)
  generalize wd X 0 = p at *
  generalize wd X 1 = q at *
  generalize wd X 2 = r at *
  generalize X / (K * K * K) = t at *
  simp only [K, K4] at *
  omega
theorem wv_down {a b c d : Value} {X : Nat} (hX : X < K4) (h : (.agg #[a, b, c, d] : Value) = wv X) : (.agg #[b, c, d, .int .u64 0] : Value) = wv (X / K) := by
  obtain ⟨rfl, rfl, rfl, rfl⟩ := wv_cells h
  have b0 := wd_lt X 0
  have b1 := wd_lt X 1
  have b2 := wd_lt X 2
  have b3 := wd_lt X 3
  refine wv_of (d := 0) b1 b2 b3 (by decide) ?_
  have s := wd_sum X hX
  generalize wd X 0 = p at *
  generalize wd X 1 = q at *
  generalize wd X 2 = r at *
  generalize wd X 3 = t at *
  simp only [K, K4] at *
  omega
theorem up_step (x r : Nat) : x * 2 ^ r % K4 * K % K4 = x * 2 ^ (64 + r) % K4 := by
  rw [Nat.mod_mul_mod, Nat.mul_assoc, Nat.pow_add, Nat.mul_comm (2 ^ 64)]
theorem left_fin1 {x r : Nat} (hx : x < K4) (hr : r ≤ 64) : (.agg #[.int .u64 0, .int .u64 ((wd x 0 * 2 ^ r % K : Nat) : Int), .int .u64 ((wd x 1 * 2 ^ r % K + wd x 0 * 2 ^ r / K : Nat) : Int), .int .u64 ((wd x 2 * 2 ^ r % K + wd x 1 * 2 ^ r / K : Nat) : Int)] : Value) = wv (x * 2 ^ (64 * 1 + r) % K4) := by
  rw [wv_up (left_fin0 hx hr), up_step]
theorem left_fin2 {x r : Nat} (hx : x < K4) (hr : r ≤ 64) : (.agg #[.int .u64 0, .int .u64 0, .int .u64 ((wd x 0 * 2 ^ r % K : Nat) : Int), .int .u64 ((wd x 1 * 2 ^ r % K + wd x 0 * 2 ^ r / K : Nat) : Int)] : Value) = wv (x * 2 ^ (64 * 2 + r) % K4) := by
  rw [wv_up (left_fin1 hx hr), up_step, show 64 + (64 * 1 + r) = 64 * 2 + r by omega]
theorem left_fin3 {x r : Nat} (hx : x < K4) (hr : r ≤ 64) : (.agg #[.int .u64 0, .int .u64 0, .int .u64 0, .int .u64 ((wd x 0 * 2 ^ r % K : Nat) : Int)] : Value) = wv (x * 2 ^ (64 * 3 + r) % K4) := by
  rw [wv_up (left_fin2 hx hr), up_step, show 64 + (64 * 2 + r) = 64 * 3 + r by omega]
theorem left_fin1' {x r : Nat} (hx : x < K4) (hr : r = 0) : (.agg #[.int .u64 0, .int .u64 ((wd x 0 * 2 ^ r % K : Nat) : Int), .int .u64 ((wd x 1 * 2 ^ r % K : Nat) : Int), .int .u64 ((wd x 2 * 2 ^ r % K : Nat) : Int)] : Value) = wv (x * 2 ^ (64 * 1 + r) % K4) := by
  rw [wv_up (left_fin0' hx hr), up_step]
theorem left_fin2' {x r : Nat} (hx : x < K4) (hr : r = 0) : (.agg #[.int .u64 0, .int .u64 0, .int .u64 ((wd x 0 * 2 ^ r % K : Nat) : Int), .int .u64 ((wd x 1 * 2 ^ r % K : Nat) : Int)] : Value) = wv (x * 2 ^ (64 * 2 + r) % K4) := by
  rw [wv_up (left_fin1' hx hr), up_step, show 64 + (64 * 1 + r) = 64 * 2 + r by omega]
theorem left_fin3' {x r : Nat} (hx : x < K4) (_hr : r = 0) : (.agg #[.int .u64 0, .int .u64 0, .int .u64 0, .int .u64 ((wd x 0 * 2 ^ r % K : Nat) : Int)] : Value) = wv (x * 2 ^ (64 * 3 + r) % K4) := left_fin3 hx (by omega)
theorem left_big {x n : Nat} (h : 256 ≤ n) : x * 2 ^ n % K4 = 0 := by
  have e : 2 ^ n = K4 * 2 ^ (n - 256) := by
    rw [show K4 = 2 ^ 256 from by decide, ← Nat.pow_add, show 256 + (n - 256) = n by omega]
  rw [e, Nat.mul_left_comm, Nat.mul_mod_right]
theorem right_big {x n : Nat} (hx : x < K4) (h : 256 ≤ n) : x / 2 ^ n = 0 := by
  refine Nat.div_eq_of_lt (Nat.lt_of_lt_of_le hx ?_)
  rw [show K4 = 2 ^ 256 from by decide]
  exact Nat.pow_le_pow_right (by decide) h

theorem shr_parts {a b r : Nat} (ha : a < K) (hr : r ≤ 64) : b * 2 ^ (64 - r) % K = 2 ^ (64 - r) * (b % 2 ^ r) ∧ a / 2 ^ r < 2 ^ (64 - r) := by
  have hK := two64 hr
  constructor
  · rw [← hK, Nat.mul_comm b, Nat.mul_mod_mul_left]
  · rw [Nat.div_lt_iff_lt_mul (Nat.two_pow_pos r), hK]
    exact ha
theorem shr_lt {a b r : Nat} (ha : a < K) (hr : r ≤ 64) : a / 2 ^ r + b * 2 ^ (64 - r) % K < K := by
  obtain ⟨h1, h2⟩ := shr_parts (b := b) ha hr
  have h3 : b % 2 ^ r + 1 ≤ 2 ^ r := Nat.mod_lt _ (Nat.two_pow_pos _)
  have h4 := Nat.mul_le_mul_left (2 ^ (64 - r)) h3
  rw [Nat.mul_add, Nat.mul_one, two64 hr] at h4
  rw [h1]
  omega
theorem or_shiftR {a b r : Nat} (ha : a < K) (hr : r ≤ 64) : Go.bits .or .u64 ((a / 2 ^ r : Nat) : Int) ((b * 2 ^ (64 - r) % K : Nat) : Int) = ((a / 2 ^ r + b * 2 ^ (64 - r) % K : Nat) : Int) := by
  obtain ⟨h1, h2⟩ := shr_parts (b := b) ha hr
  rw [n_or (Nat.lt_of_le_of_lt (Nat.div_le_self _ _) ha) (Nat.mod_lt _ (by decide)), h1, Nat.or_comm, ← Nat.two_pow_add_eq_or_of_lt h2, Nat.add_comm]
theorem right_sum {x r : Nat} (hx : x < K4) (hr : r ≤ 64) : x / 2 ^ r = (wd x 0 / 2 ^ r + wd x 1 * 2 ^ (64 - r) % K) + K * (wd x 1 / 2 ^ r + wd x 2 * 2 ^ (64 - r) % K) + K * K * (wd x 2 / 2 ^ r + wd x 3 * 2 ^ (64 - r) % K) + K * K * K * (wd x 3 / 2 ^ r) := by
  have hs := wd_sum x hx
  have hK := two64 hr
  have p1 := (shr_parts (b := wd x 1) (wd_lt x 0) hr).1
  have p2 := (shr_parts (b := wd x 2) (wd_lt x 0) hr).1
  have p3 := (shr_parts (b := wd x 3) (wd_lt x 0) hr).1
  rw [p1, p2, p3]
  have ht := Nat.two_pow_pos r
  generalize 2 ^ (64 - r) = s at *
  generalize 2 ^ r = t at *
  have d0 := Nat.div_add_mod (wd x 0) t
  have d1 := Nat.div_add_mod (wd x 1) t
  have d2 := Nat.div_add_mod (wd x 2) t
  have d3 := Nat.div_add_mod (wd x 3) t
  have l0 := Nat.mod_lt (wd x 0) ht
  generalize wd x 0 = a0 at *
  generalize wd x 1 = a1 at *
  generalize wd x 2 = a2 at *
  generalize wd x 3 = a3 at *
  generalize a0 / t = q0 at *
  generalize a1 / t = q1 at *
  generalize a2 / t = q2 at *
  generalize a3 / t = q3 at *
  generalize a0 % t = r0 at *
  generalize a1 % t = r1 at *
  generalize a2 % t = r2 at *
  generalize a3 % t = r3 at *
  generalize hY : (q0 + s * r1) + K * (q1 + s * r2) + K * K * (q2 + s * r3) + K * K * K * q3 = Y
  have e1 : t * (s * r1) = K * r1 := by rw [← Nat.mul_assoc, Nat.mul_comm t s, hK]
  have e2 : t * (s * r2) = K * r2 := by rw [← Nat.mul_assoc, Nat.mul_comm t s, hK]
  have e3 : t * (s * r3) = K * r3 := by rw [← Nat.mul_assoc, Nat.mul_comm t s, hK]
  have e : t * Y = t * q0 + K * r1 + K * (t * q1 + K * r2) + K * K * (t * q2 + K * r3) + K * K * K * (t * q3) := by
    rw [← hY, Nat.mul_add, Nat.mul_add, Nat.mul_add, Nat.mul_add, e1, Nat.mul_left_comm t K, Nat.mul_add t q1, e2, Nat.mul_left_comm t (K * K), Nat.mul_add t q2, e3, Nat.mul_left_comm t (K * K * K)]
  have hx2 : x = r0 + t * Y := by
    rw [e, hs]
    clear hs e hY e1 e2 e3 p1 p2 p3 hK
    generalize t * q0 = m0 at *
    generalize t * q1 = m1 at *
    generalize t * q2 = m2 at *
    generalize t * q3 = m3 at *
    simp only [K] at *
    omega
  rw [hx2, Nat.add_mul_div_left _ _ ht, Nat.div_eq_of_lt l0, Nat.zero_add]
theorem right_fin0 {x r : Nat} (hx : x < K4) (hr : r ≤ 64) : (.agg #[.int .u64 ((wd x 0 / 2 ^ r + wd x 1 * 2 ^ (64 - r) % K : Nat) : Int), .int .u64 ((wd x 1 / 2 ^ r + wd x 2 * 2 ^ (64 - r) % K : Nat) : Int), .int .u64 ((wd x 2 / 2 ^ r + wd x 3 * 2 ^ (64 - r) % K : Nat) : Int), .int .u64 ((wd x 3 / 2 ^ r : Nat) : Int)] : Value) = wv (x / 2 ^ (64 * 0 + r)) := by
  rw [show 64 * 0 + r = r by omega]
  exact wv_of (shr_lt (wd_lt x 0) hr) (shr_lt (wd_lt x 1) hr) (shr_lt (wd_lt x 2) hr) (Nat.lt_of_le_of_lt (Nat.div_le_self _ _) (wd_lt x 3)) (right_sum hx hr)
theorem right_fin0' {x r : Nat} (hx : x < K4) (hr : r = 0) : (.agg #[.int .u64 ((wd x 0 / 2 ^ r : Nat) : Int), .int .u64 ((wd x 1 / 2 ^ r : Nat) : Int), .int .u64 ((wd x 2 / 2 ^ r : Nat) : Int), .int .u64 ((wd x 3 / 2 ^ r : Nat) : Int)] : Value) = wv (x / 2 ^ (64 * 0 + r)) := by
  subst hr
  simp only [Nat.pow_zero, Nat.div_one]
  rw [Nat.mul_zero, Nat.add_zero, Nat.pow_zero, Nat.div_one]
theorem down_step {x n : Nat} : x / 2 ^ n / K = x / 2 ^ (64 + n) := by
  rw [Nat.div_div_eq_div_mul, show K = 2 ^ 64 from by decide, ← Nat.pow_add, Nat.add_comm]
theorem div_K4 {x n : Nat} (hx : x < K4) : x / 2 ^ n < K4 := Nat.lt_of_le_of_lt (Nat.div_le_self _ _) hx
theorem right_fin1 {x r : Nat} (hx : x < K4) (hr : r ≤ 64) : (.agg #[.int .u64 ((wd x 1 / 2 ^ r + wd x 2 * 2 ^ (64 - r) % K : Nat) : Int), .int .u64 ((wd x 2 / 2 ^ r + wd x 3 * 2 ^ (64 - r) % K : Nat) : Int), .int .u64 ((wd x 3 / 2 ^ r : Nat) : Int), .int .u64 0] : Value) = wv (x / 2 ^ (64 * 1 + r)) := by
  rw [wv_down (div_K4 hx) (right_fin0 hx hr), down_step, show 64 + (64 * 0 + r) = 64 * 1 + r by omega]
theorem right_fin2 {x r : Nat} (hx : x < K4) (hr : r ≤ 64) : (.agg #[.int .u64 ((wd x 2 / 2 ^ r + wd x 3 * 2 ^ (64 - r) % K : Nat) : Int), .int .u64 ((wd x 3 / 2 ^ r : Nat) : Int), .int .u64 0, .int .u64 0] : Value) = wv (x / 2 ^ (64 * 2 + r)) := by
  rw [wv_down (div_K4 hx) (right_fin1 hx hr), down_step, show 64 + (64 * 1 + r) = 64 * 2 + r by omega]
theorem right_fin3 {x r : Nat} (hx : x < K4) (hr : r ≤ 64) : (.agg #[.int .u64 ((wd x 3 / 2 ^ r : Nat) : Int), .int .u64 0, .int .u64 0, .int .u64 0] : Value) = wv (x / 2 ^ (64 * 3 + r)) := by
  rw [wv_down (div_K4 hx) (right_fin2 hx hr), down_step, show 64 + (64 * 2 + r) = 64 * 3 + r by omega]
theorem right_fin1' {x r : Nat} (hx : x < K4) (hr : r = 0) : (.agg #[.int .u64 ((wd x 1 / 2 ^ r : Nat) : Int), .int .u64 ((wd x 2 / 2 ^ r : Nat) : Int), .int .u64 ((wd x 3 / 2 ^ r : Nat) : Int), .int .u64 0] : Value) = wv (x / 2 ^ (64 * 1 + r)) := by
  rw [wv_down (div_K4 hx) (right_fin0' hx hr), down_step, show 64 + (64 * 0 + r) = 64 * 1 + r by omega]
theorem right_fin2' {x r : Nat} (hx : x < K4) (hr : r = 0) : (.agg #[.int .u64 ((wd x 2 / 2 ^ r : Nat) : Int), .int .u64 ((wd x 3 / 2 ^ r : Nat) : Int), .int .u64 0, .int .u64 0] : Value) = wv (x / 2 ^ (64 * 2 + r)) := by
  rw [wv_down (div_K4 hx) (right_fin1' hx hr), down_step, show 64 + (64 * 1 + r) = 64 * 2 + r by omega]
theorem right_fin3' {x r : Nat} (hx : x < K4) (hr : r = 0) : (.agg #[.int .u64 ((wd x 3 / 2 ^ r : Nat) : Int), .int .u64 0, .int .u64 0, .int .u64 0] : Value) = wv (x / 2 ^ (64 * 3 + r)) := right_fin3 hx (by omega)

/-! ### bytes -/
/-- Byte number i, the lowest first; the number of bytes. -/
def bt (x i : Nat) : Nat := x / 256 ^ i % 256
def bsum (g : Nat → Nat) : Nat → Nat
  | 0 => 0
  | n + 1 => bsum g n + 256 ^ n * g n
theorem bt_lt (x i : Nat) : bt x i < 256 := Nat.mod_lt _ (by decide)
theorem n_u8 (a : Nat) : IntKind.u8.wrap (a : Int) = ((a % 256 : Nat) : Int) := by rw [IntKind.wrap_u8]; omega
theorem bt_wd (x : Nat) {j k : Nat} (hj : j < 4) (hk : k < 8) : wd x j / 2 ^ (8 * k) % 256 = bt x (8 * j + k) := by
  rw [wd_div x hj, bt, show (256 : Nat) ^ (8 * j + k) = 2 ^ (64 * j) * 2 ^ (8 * k) from by rw [show (256 : Nat) = 2 ^ 8 from rfl, ← Nat.pow_mul, ← Nat.pow_add]; congr 1; omega, ← Nat.div_div_eq_div_mul]
  have e : K = 2 ^ (8 * k) * (256 * 2 ^ (56 - 8 * k)) := by
    rw [show (256 : Nat) = 2 ^ 8 from rfl, ← Nat.pow_add, ← Nat.pow_add, show 8 * k + (8 + (56 - 8 * k)) = 64 by omega]
  rw [e, Nat.mod_mul_right_div_self, Nat.mod_mul_right_mod]
theorem bsum_lt {g : Nat → Nat} (hg : ∀ i, g i < 256) (n : Nat) : bsum g n < 256 ^ n := by
  induction n with
  | zero => simp [bsum]
  | succ n ih =>
    have h := Nat.mul_le_mul_left (256 ^ n) (show g n + 1 ≤ 256 from hg n)
    rw [Nat.mul_add, Nat.mul_one] at h
    rw [bsum, Nat.pow_succ]
    omega
theorem bsum_bt (x n : Nat) : bsum (bt x) n = x % 256 ^ n := by
  induction n with
  | zero => simp [bsum, Nat.mod_one]
  | succ n ih => rw [bsum, ih, Nat.pow_succ, Nat.mod_mul, bt]
theorem bsum_all {x : Nat} (hx : x < K4) : bsum (bt x) 32 = x := by
  rw [bsum_bt, show (256 : Nat) ^ 32 = K4 from by decide, Nat.mod_eq_of_lt hx]
theorem bsum_K4 {g : Nat → Nat} (hg : ∀ i, g i < 256) : bsum g 32 < K4 := by
  have := bsum_lt hg 32
  rwa [show (256 : Nat) ^ 32 = K4 from by decide] at this
theorem byte_room {V i : Nat} (hV : V < 256 ^ i) (hi : i < 32) {d : Nat} (hd : d < 256) : wd V (i / 8) < 2 ^ (8 * (i % 8)) ∧ d * 2 ^ (8 * (i % 8)) < K ∧ wd V (i / 8) + d * 2 ^ (8 * (i % 8)) < K := by
  have h1 : wd V (i / 8) < 2 ^ (8 * (i % 8)) := by
    rw [wd_div V (by omega)]
    refine Nat.lt_of_le_of_lt (Nat.mod_le _ _) ?_
    rw [Nat.div_lt_iff_lt_mul (Nat.two_pow_pos _), ← Nat.pow_add]
    rw [show (256 : Nat) = 2 ^ 8 from rfl, ← Nat.pow_mul] at hV
    rwa [show 8 * (i % 8) + 64 * (i / 8) = 8 * i from by omega]
  have h2 : (d + 1) * 2 ^ (8 * (i % 8)) ≤ K := by
    have h3 : (d + 1) * 2 ^ (8 * (i % 8)) ≤ 256 * 2 ^ (8 * (i % 8)) := Nat.mul_le_mul_right _ (by omega)
    have h4 : 256 * 2 ^ (8 * (i % 8)) ≤ 256 * 2 ^ 56 := Nat.mul_le_mul_left _ (Nat.pow_le_pow_right (by decide) (by omega))
    have h5 : 256 * 2 ^ 56 = K := by decide
    omega
  rw [Nat.add_mul, Nat.one_mul] at h2
  have := Nat.two_pow_pos (8 * (i % 8))
  exact ⟨h1, by omega, by omega⟩
theorem or_byte {a d k : Nat} (ha : a < 2 ^ k) (haK : a < K) (hd : d * 2 ^ k < K) : Go.bits .or .u64 (a : Int) ((d * 2 ^ k : Nat) : Int) = ((a + d * 2 ^ k : Nat) : Int) := by
  rw [n_or haK hd, Nat.or_comm, Nat.mul_comm d, ← Nat.two_pow_add_eq_or_of_lt ha, Nat.add_comm]
theorem setbyte {V i d : Nat} (hV : V < 256 ^ i) (hi : i < 32) (hd : d < 256) :
    ([.int .u64 (wd V 0 : Int), .int .u64 (wd V 1 : Int), .int .u64 (wd V 2 : Int), .int .u64 (wd V 3 : Int)] : List Value).set (0 + i / 8 * 1) (.int .u64 ((wd V (i / 8) + d * 2 ^ (8 * (i % 8)) : Nat) : Int)) =
      [.int .u64 (wd (V + 256 ^ i * d) 0 : Int), .int .u64 (wd (V + 256 ^ i * d) 1 : Int), .int .u64 (wd (V + 256 ^ i * d) 2 : Int), .int .u64 (wd (V + 256 ^ i * d) 3 : Int)] := by
  obtain ⟨h0, h1, h2⟩ := byte_room hV hi hd
  have hK : V < K4 := Nat.lt_of_lt_of_le hV (by
    have : 256 ^ i ≤ 256 ^ 32 := Nat.pow_le_pow_right (by decide) (by omega)
    exact Nat.le_trans this (by decide))
  have e : 256 ^ i * d = 2 ^ (64 * (i / 8)) * (d * 2 ^ (8 * (i % 8))) := by
    rw [Nat.mul_comm d, ← Nat.mul_assoc, ← Nat.pow_add, show 64 * (i / 8) + 8 * (i % 8) = 8 * i from by omega, Nat.pow_mul]
  rw [e]
  exact setword hK (by omega) h2
theorem fn_cell {n : Nat} (g : Nat → Nat) {j : Nat} (hj : j < n) : ((List.range n).map fun i => Value.int .u8 ((g i : Nat) : Int))[0 + j * 1]? = some (.int .u8 ((g j : Nat) : Int)) := by
  rw [Nat.zero_add, Nat.mul_one]
  simp [hj]
theorem bsum_step {g : Nat → Nat} {m V s : Nat} (hm : 0 < m) (hV : V * 256 ^ m + bsum g m = s) : (V * 256 + g (m - 1)) * 256 ^ (m - 1) + bsum g (m - 1) = s := by
  obtain ⟨k, rfl⟩ : ∃ k, m = k + 1 := ⟨m - 1, by omega⟩
  rw [bsum, Nat.pow_succ] at hV
  rw [Nat.add_sub_cancel, Nat.add_mul, Nat.mul_assoc, Nat.mul_comm 256, Nat.mul_comm (g k)]
  omega
theorem bsum_top {g : Nat → Nat} {m V s : Nat} (hV : V * 256 ^ m + bsum g m = s) : V ≤ s := by
  have h : V * 1 ≤ V * 256 ^ m := Nat.mul_le_mul_left V (Nat.pow_pos (by decide))
  omega
/-- An array's element, by a number that is not known. -/
theorem run_idxFn {P : Program} {t n : Nat} {k k' : IntKind} (ht : arrInt P t = some n) (g : Nat → Nat) {i : Nat} (hi : i < n) (w : World) :
    (Instr.index t (.agg ((List.range n).map fun i => Value.int k ((g i : Nat) : Int)).toArray) (.int k' (i : Int))).run P w = .ok (.int k ((g i : Nat) : Int)) w := by
  obtain ⟨e, inf, k2, hu, he, hinf, hs, _⟩ := arrInt_spec ht
  have h := run_part_int (w := w) (k := k) he ((List.range n).map fun i => ((g i : Nat) : Int)) (i := i) (by simpa using hi)
  have e1 : ints k ((List.range n).map fun i => ((g i : Nat) : Int)) = (List.range n).map fun i => Value.int k ((g i : Nat) : Int) := by simp [ints]
  have e2 : ((List.range n).map fun i => ((g i : Nat) : Int)).getD i 0 = ((g i : Nat) : Int) := by simp [List.getD_eq_getElem?_getD, hi]
  rw [e1, e2] at h
  have hc : (0 : Int) ≤ (i : Int) ∧ (i : Int) < (n : Int) := ⟨by omega, by omega⟩
  simp only [Instr.index, Sem.run_bind, asIntOf, Sem.run_pure, Result.andThen_ok, run_underlying hu, if_pos hc, Int.toNat_natCast]
  have h2 : (sizeOf e).run P w = .ok 1 w := by simp [sizeOf, typeInfo, hinf, hs]
  simp only [h2, Result.andThen_ok]
  exact h
end Go.Proofs.Ytdepaaphgfapjaa
