/- Wide numbers: their four words, as a number below 2^256. Plain arithmetic, and the library's carrying sums. -/
import Derived.Test.YtgmggjnoegelgaaGe
import Derived.Laws.Externs
namespace Go.Proofs.Ytgmggjnoegelgaa
open Go.RowKit

/-- 2^64, and 2^256. -/
abbrev K : Nat := 18446744073709551616
abbrev K4 : Nat := 115792089237316195423570985008687907853269984665640564039457584007913129639936
/-- Word number i of a number. -/
def wd (x : Nat) : Nat → Nat
  | 0 => x % K
  | 1 => x / K % K
  | 2 => x / (K * K) % K
  | _ => x / (K * K * K) % K
abbrev wv (x : Nat) : Value := .agg #[.int .u64 (wd x 0 : Int), .int .u64 (wd x 1 : Int), .int .u64 (wd x 2 : Int), .int .u64 (wd x 3 : Int)]
/-- Short names: a number's words as cells, four noughts, a pointer. -/
abbrev wl (x : Nat) : List Value := [.int .u64 (wd x 0 : Int), .int .u64 (wd x 1 : Int), .int .u64 (wd x 2 : Int), .int .u64 (wd x 3 : Int)]
abbrev z4 : List Value := [.int .u64 0, .int .u64 0, .int .u64 0, .int .u64 0]
abbrev pt (b o : Nat) : Value := .pointer (some ⟨b, o, none⟩)
theorem wl_one (x : Nat) : ∀ v ∈ wl x, v.oneCell' = true := by simp [wl, Value.oneCell']
theorem z4_one : ∀ v ∈ z4, v.oneCell' = true := by simp [z4, Value.oneCell']
theorem wd_lt (x i : Nat) : wd x i < K := by
  unfold wd
  split <;> exact Nat.mod_lt _ (by decide)
theorem wd_sum (x : Nat) (hx : x < K4) : x = wd x 0 + K * wd x 1 + K * K * wd x 2 + K * K * K * wd x 3 := by
  have h3 : wd x 3 = x / (K * K * K) % K := rfl
  have h2 : wd x 2 = x / (K * K) % K := rfl
  have h1 : wd x 1 = x / K % K := rfl
  have h0 : wd x 0 = x % K := rfl
  have e1 : x / (K * K) = x / K / K := (Nat.div_div_eq_div_mul x K K).symm
  have e2 : x / (K * K * K) = x / K / K / K := by rw [← Nat.div_div_eq_div_mul, ← Nat.div_div_eq_div_mul]
  rw [h0, h1, h2, h3, e1, e2]
  generalize hy : x / K = y
  generalize hz : y / K = z
  generalize hu : z / K = u
  simp only [K, K4] at *
  omega
/-- Four words make a number: its words are these. -/
theorem wd_of (a b c d : Nat) (ha : a < K) (hb : b < K) (hc : c < K) (hd : d < K) : wd (a + K * b + K * K * c + K * K * K * d) 0 = a ∧ wd (a + K * b + K * K * c + K * K * K * d) 1 = b ∧ wd (a + K * b + K * K * c + K * K * K * d) 2 = c ∧ wd (a + K * b + K * K * c + K * K * K * d) 3 = d := by
  generalize hx : a + K * b + K * K * c + K * K * K * d = x
  have e1 : x / (K * K) = x / K / K := (Nat.div_div_eq_div_mul x K K).symm
  have e2 : x / (K * K * K) = x / K / K / K := by rw [← Nat.div_div_eq_div_mul, ← Nat.div_div_eq_div_mul]
  refine ⟨show x % K = a from ?_, show x / K % K = b from ?_, show x / (K * K) % K = c from ?_, show x / (K * K * K) % K = d from ?_⟩
  · simp only [K] at *; omega
  · simp only [K] at *; omega
  · rw [e1]
    simp only [K] at *; omega
  · rw [e2]
    simp only [K] at *; omega
theorem wv_of {a b c d x : Nat} (ha : a < K) (hb : b < K) (hc : c < K) (hd : d < K) (hx : x = a + K * b + K * K * c + K * K * K * d) : (.agg #[.int .u64 (a : Int), .int .u64 (b : Int), .int .u64 (c : Int), .int .u64 (d : Int)] : Value) = wv x := by
  obtain ⟨h0, h1, h2, h3⟩ := wd_of a b c d ha hb hc hd
  rw [← hx] at h0 h1 h2 h3
  rw [wv, h0, h1, h2, h3]
theorem wv_lt {a b c d : Nat} (ha : a < K) (hb : b < K) (hc : c < K) (hd : d < K) : a + K * b + K * K * c + K * K * K * d < K4 := by simp only [K, K4] at *; omega

theorem carry_le {x y c : Nat} (hx : x < K) (hy : y < K) (hc : c ≤ 1) : (x + y + c) / K ≤ 1 := by simp only [K] at *; omega
theorem borrow_le (x y b : Nat) : (if x < y + b then 1 else 0 : Nat) ≤ 1 := by split <;> omega
theorem limb {a b c s d : Nat} (hs : s = (a + b + c) % K) (hd : d = (a + b + c) / K) : a + b + c = s + K * d ∧ s < K := by
  subst hs hd
  exact ⟨(Nat.mod_add_div _ _).symm, Nat.mod_lt _ (by decide)⟩
theorem limb_sub {a b c s d : Nat} (ha : a < K) (hb : b < K) (hc : c ≤ 1) (hs : s = (a + K - b - c) % K) (hd : d = if a < b + c then 1 else 0) : a + K * d = s + b + c ∧ s < K ∧ d ≤ 1 := by
  split at hd
  · rw [Nat.mod_eq_of_lt (by omega)] at hs
    subst hd
    omega
  · have e : a + K - b - c = (a - b - c) + K := by omega
    rw [e, Nat.add_mod_right, Nat.mod_eq_of_lt (by omega)] at hs
    subst hd
    omega
theorem mod_K4 {n s c : Nat} (h : n = s + K4 * c) (hs : s < K4) : n % K4 = s := by rw [h, Nat.add_mul_mod_self_left, Nat.mod_eq_of_lt hs]
theorem sum4 {x y x0 x1 x2 x3 y0 y1 y2 y3 s0 s1 s2 s3 c0 c1 c2 c3 : Nat} (ex : x = x0 + K * x1 + K * K * x2 + K * K * K * x3) (ey : y = y0 + K * y1 + K * K * y2 + K * K * K * y3) (h0 : x0 + y0 = s0 + K * c0) (h1 : x1 + y1 + c0 = s1 + K * c1)
    (h2 : x2 + y2 + c1 = s2 + K * c2) (h3 : x3 + y3 + c2 = s3 + K * c3) : x + y = s0 + K * s1 + K * K * s2 + K * K * K * s3 + K4 * c3 := by
  simp only [K, K4] at *
  omega
theorem dif4 {x y x0 x1 x2 x3 y0 y1 y2 y3 s0 s1 s2 s3 c0 c1 c2 c3 : Nat} (ex : x = x0 + K * x1 + K * K * x2 + K * K * K * x3) (ey : y = y0 + K * y1 + K * K * y2 + K * K * K * y3) (h0 : x0 + K * c0 = s0 + y0) (h1 : x1 + K * c1 = s1 + y1 + c0)
    (h2 : x2 + K * c2 = s2 + y2 + c1) (h3 : x3 + K * c3 = s3 + y3 + c2) : x + K4 * c3 = s0 + K * s1 + K * K * s2 + K * K * K * s3 + y := by
  simp only [K, K4] at *
  omega
theorem flag_add {x y s c : Nat} (hx : x < K4) (hy : y < K4) (hs : s < K4) (e : x + y = s + K4 * c) : ((c : Int) == 1) = decide (K4 ≤ x + y) := by
  rw [Bool.eq_iff_iff]
  simp only [beq_iff_eq, decide_eq_true_eq]
  simp only [K4] at *
  omega
theorem flag_sub {x y s c : Nat} (hx : x < K4) (hy : y < K4) (hs : s < K4) (e : x + K4 * c = s + y) : ((c : Int) == 1) = decide (x < y) := by
  rw [Bool.eq_iff_iff]
  simp only [beq_iff_eq, decide_eq_true_eq]
  simp only [K4] at *
  omega
theorem mod_sub {x y s c : Nat} (hx : x < K4) (hy : y < K4) (hs : s < K4) (e : x + K4 * c = s + y) : (x + K4 - y) % K4 = s := by
  simp only [K4] at *
  omega
theorem add_fin {x y s0 s1 s2 s3 c0 c1 c2 c3 : Nat} (hx : x < K4) (hy : y < K4) (h0 : s0 = (wd x 0 + wd y 0 + 0) % K) (g0 : c0 = (wd x 0 + wd y 0 + 0) / K) (h1 : s1 = (wd x 1 + wd y 1 + c0) % K) (g1 : c1 = (wd x 1 + wd y 1 + c0) / K)
    (h2 : s2 = (wd x 2 + wd y 2 + c1) % K) (g2 : c2 = (wd x 2 + wd y 2 + c1) / K) (h3 : s3 = (wd x 3 + wd y 3 + c2) % K) (g3 : c3 = (wd x 3 + wd y 3 + c2) / K) :
    (.agg #[.int .u64 (s0 : Int), .int .u64 (s1 : Int), .int .u64 (s2 : Int), .int .u64 (s3 : Int)] : Value) = wv ((x + y) % K4) ∧ ((c3 : Int) == 1) = decide (K4 ≤ x + y) := by
  have k0 := limb h0 g0
  have k1 := limb h1 g1
  have k2 := limb h2 g2
  have k3 := limb h3 g3
  have e := sum4 (wd_sum x hx) (wd_sum y hy) k0.1 k1.1 k2.1 k3.1
  have hlt := wv_lt k0.2 k1.2 k2.2 k3.2
  exact ⟨wv_of k0.2 k1.2 k2.2 k3.2 (mod_K4 e hlt), flag_add hx hy hlt e⟩
theorem sub_fin {x y s0 s1 s2 s3 c0 c1 c2 c3 : Nat} (hx : x < K4) (hy : y < K4) (h0 : s0 = (wd x 0 + K - wd y 0 - 0) % K) (g0 : c0 = if wd x 0 < wd y 0 + 0 then 1 else 0) (h1 : s1 = (wd x 1 + K - wd y 1 - c0) % K) (g1 : c1 = if wd x 1 < wd y 1 + c0 then 1 else 0)
    (h2 : s2 = (wd x 2 + K - wd y 2 - c1) % K) (g2 : c2 = if wd x 2 < wd y 2 + c1 then 1 else 0) (h3 : s3 = (wd x 3 + K - wd y 3 - c2) % K) (g3 : c3 = if wd x 3 < wd y 3 + c2 then 1 else 0) :
    (.agg #[.int .u64 (s0 : Int), .int .u64 (s1 : Int), .int .u64 (s2 : Int), .int .u64 (s3 : Int)] : Value) = wv ((x + K4 - y) % K4) ∧ ((c3 : Int) == 1) = decide (x < y) := by
  have k0 := limb_sub (wd_lt x 0) (wd_lt y 0) (Nat.zero_le 1) h0 g0
  have k1 := limb_sub (wd_lt x 1) (wd_lt y 1) k0.2.2 h1 g1
  have k2 := limb_sub (wd_lt x 2) (wd_lt y 2) k1.2.2 h2 g2
  have k3 := limb_sub (wd_lt x 3) (wd_lt y 3) k2.2.2 h3 g3
  have e := dif4 (wd_sum x hx) (wd_sum y hy) k0.1 k1.1 k2.1 k3.1
  have hlt := wv_lt k0.2.1 k1.2.1 k2.2.1 k3.2.1
  exact ⟨wv_of k0.2.1 k1.2.1 k2.2.1 k3.2.1 (mod_sub hx hy hlt e), flag_sub hx hy hlt e⟩
end Go.Proofs.Ytgmggjnoegelgaa
