/- Words of 64 bits as natural numbers: each operation of the machine, told over these. Plain arithmetic. -/
import Derived.Test.YtgmggjnoegelgaaWa
import Derived.Lib.Mul64
import Derived.Lib.Zigzag
import Derived.Test.YtgmggjnoegelgaaGf
namespace Go.Proofs.Ytgmggjnoegelgaa
open Go.RowKit

theorem n_add (a b : Nat) : IntKind.u64.wrap ((a : Int) + (b : Int)) = (((a + b) % K : Nat) : Int) := by rw [IntKind.wrap_u64]; simp only [K]; omega
theorem n_add' {a b : Nat} (h : a + b < K) : IntKind.u64.wrap ((a : Int) + (b : Int)) = ((a + b : Nat) : Int) := by rw [n_add, Nat.mod_eq_of_lt h]
theorem n_sub {a b : Nat} (h : b ≤ a) (ha : a < K) : IntKind.u64.wrap ((a : Int) - (b : Int)) = ((a - b : Nat) : Int) := by rw [IntKind.wrap_u64]; simp only [K] at *; omega
theorem n_mul (a b : Nat) : IntKind.u64.wrap ((a : Int) * (b : Int)) = (((a * b) % K : Nat) : Int) := by
  rw [IntKind.wrap_u64, ← Int.natCast_mul]
  simp only [K]
  omega
theorem n_mul' {a b : Nat} (h : a * b < K) : IntKind.u64.wrap ((a : Int) * (b : Int)) = ((a * b : Nat) : Int) := by rw [n_mul, Nat.mod_eq_of_lt h]
theorem n_shr (a n : Nat) : Int.fdiv (a : Int) (2 ^ n) = ((a / 2 ^ n : Nat) : Int) := by
  have e : ((2 : Int) ^ n) = ((2 ^ n : Nat) : Int) := by simp
  rw [e, Int.fdiv_eq_ediv_of_nonneg _ (Int.natCast_nonneg _)]
  simp
theorem n_shl (a n : Nat) : IntKind.u64.wrap ((a : Int) * 2 ^ n) = (((a * 2 ^ n) % K : Nat) : Int) := by
  have e : ((2 : Int) ^ n) = ((2 ^ n : Nat) : Int) := by simp
  rw [e, n_mul]
theorem n_and {a b : Nat} (ha : a < K) (hb : b < K) : Go.bits .and .u64 (a : Int) (b : Int) = ((a &&& b : Nat) : Int) :=
  (bits_nat .u64 64 (by decide) (fun n h0 h1 => by rw [IntKind.wrap_u64]; omega) a b (by simpa [K] using ha) (by simpa [K] using hb)).1
theorem n_or {a b : Nat} (ha : a < K) (hb : b < K) : Go.bits .or .u64 (a : Int) (b : Int) = ((a ||| b : Nat) : Int) :=
  (bits_nat .u64 64 (by decide) (fun n h0 h1 => by rw [IntKind.wrap_u64]; omega) a b (by simpa [K] using ha) (by simpa [K] using hb)).2
theorem n_xor {a b : Nat} (ha : a < K) (hb : b < K) : Go.bits .xor .u64 (a : Int) (b : Int) = ((a ^^^ b : Nat) : Int) := bits_xor_u64_nat a b ha hb
theorem n_mask32 {a : Nat} (ha : a < K) : Go.bits .and .u64 (a : Int) 4294967295 = ((a % 4294967296 : Nat) : Int) := by
  rw [show (4294967295 : Int) = ((4294967295 : Nat) : Int) from rfl, n_and ha (by decide), show (4294967295 : Nat) = 2 ^ 32 - 1 from rfl, Nat.and_two_pow_sub_one_eq_mod]
theorem n_and1 {a : Nat} (ha : a < K) : Go.bits .and .u64 (a : Int) 1 = ((a % 2 : Nat) : Int) := by
  rw [show (1 : Int) = ((1 : Nat) : Int) from rfl, n_and ha (by decide), show (1 : Nat) = 2 ^ 1 - 1 from rfl, Nat.and_two_pow_sub_one_eq_mod]
theorem n_not {a : Nat} (ha : a < K) : Go.bits .xor .u64 18446744073709551615 (a : Int) = ((K - 1 - a : Nat) : Int) := by
  rw [show (18446744073709551615 : Int) = ((18446744073709551615 : Nat) : Int) from rfl, n_xor (by decide) ha]
  have := Go.Lib.xor_ones64 a (by simpa [K] using ha)
  rw [show (18446744073709551615 : Nat) = 2 ^ 64 - 1 from rfl, this]
theorem half_lt {a b : Nat} (ha : a ≤ 4294967295) (hb : b ≤ 4294967295) : a * b < K := by
  have := Go.Lib.half_mul_le ha hb
  simp only [K]
  omega
theorem mulhi_lt {x y : Nat} (hx : x < K) (hy : y < K) : x * y / K ≤ K - 2 := by
  have h1 : x * y ≤ (K - 1) * (K - 1) := Nat.mul_le_mul (by omega) (by omega)
  have h2 : x * y / K ≤ (K - 1) * (K - 1) / K := Nat.div_le_div_right h1
  exact Nat.le_trans h2 (by decide)
/-- -1, 0, 1. -/
def cmpN (x y : Nat) : Int := if x < y then -1 else if y < x then 1 else 0
theorem cmp_lt {x y : Nat} (h : x < y) : (-1 : Int) = cmpN x y := by rw [cmpN, if_pos h]
theorem cmp_gt {x y : Nat} (h : y < x) : (1 : Int) = cmpN x y := by rw [cmpN, if_neg (by omega), if_pos h]
theorem cmp_eq {x y : Nat} (h : x = y) : (0 : Int) = cmpN x y := by rw [cmpN, if_neg (by omega), if_neg (by omega)]
theorem mul4 {x y x0 x1 x2 x3 : Nat} (ex : x = x0 + K * x1 + K * K * x2 + K * K * K * x3) : x * y = x0 * y + K * (x1 * y) + K * K * (x2 * y) + K * K * K * (x3 * y) := by
  rw [ex, Nat.add_mul, Nat.add_mul, Nat.add_mul, Nat.mul_assoc K x1, Nat.mul_assoc (K * K) x2, Nat.mul_assoc (K * K * K) x3]
/-- One limb of a product by a word. -/
theorem limb_mul {p h l c s d e : Nat} (hh : h = p / K) (hl : l = p % K) (hs : s = (l + c + 0) % K) (hd : d = (l + c + 0) / K) (he : e = h + d) : p + c = s + K * e ∧ s < K := by
  simp only [K] at *
  omega
theorem mul_fin {x y s0 s1 s2 s3 c0 c1 c2 c3 : Nat} (hx : x < K4) (k0 : wd x 0 * y + 0 = s0 + K * c0 ∧ s0 < K) (k1 : wd x 1 * y + c0 = s1 + K * c1 ∧ s1 < K) (k2 : wd x 2 * y + c1 = s2 + K * c2 ∧ s2 < K) (k3 : wd x 3 * y + c2 = s3 + K * c3 ∧ s3 < K) :
    (.agg #[.int .u64 (s0 : Int), .int .u64 (s1 : Int), .int .u64 (s2 : Int), .int .u64 (s3 : Int)] : Value) = wv ((x * y) % K4) ∧ (decide (0 < (c3 : Int))) = decide (K4 ≤ x * y) := by
  have e := mul4 (y := y) (wd_sum x hx)
  have hlt := wv_lt k0.2 k1.2 k2.2 k3.2
  have e2 : x * y = s0 + K * s1 + K * K * s2 + K * K * K * s3 + K4 * c3 := by
    rw [e]
    have a0 := k0.1
    have a1 := k1.1
    have a2 := k2.1
    have a3 := k3.1
    generalize wd x 0 * y = p0 at *
    generalize wd x 1 * y = p1 at *
    generalize wd x 2 * y = p2 at *
    generalize wd x 3 * y = p3 at *
    clear e hlt k0 k1 k2 k3
    simp only [K, K4] at *
    omega
  refine ⟨wv_of k0.2 k1.2 k2.2 k3.2 (mod_K4 e2 hlt), ?_⟩
  rw [Bool.eq_iff_iff]
  simp only [decide_eq_true_eq]
  rw [e2]
  simp only [K4] at *
  omega
theorem not_fin {x : Nat} (hx : x < K4) : (.agg #[.int .u64 ((K - 1 - wd x 0 : Nat) : Int), .int .u64 ((K - 1 - wd x 1 : Nat) : Int), .int .u64 ((K - 1 - wd x 2 : Nat) : Int), .int .u64 ((K - 1 - wd x 3 : Nat) : Int)] : Value) = wv (K4 - 1 - x) := by
  have e := wd_sum x hx
  have h0 := wd_lt x 0
  have h1 := wd_lt x 1
  have h2 := wd_lt x 2
  have h3 := wd_lt x 3
  refine wv_of (by omega) (by omega) (by omega) (by omega) ?_
  generalize wd x 0 = a at *
  generalize wd x 1 = b at *
  generalize wd x 2 = c at *
  generalize wd x 3 = d at *
  simp only [K, K4] at *
  omega
theorem prod_fin {a b : Nat} (ha : a < K) (hb : b < K) : (.agg #[.int .u64 ((a * b % K : Nat) : Int), .int .u64 ((a * b / K : Nat) : Int), .int .u64 0, .int .u64 0] : Value) = wv (a * b) := by
  have h := mulhi_lt ha hb
  have := wv_of (a := a * b % K) (b := a * b / K) (c := 0) (d := 0) (x := a * b) (Nat.mod_lt _ (by decide)) (by omega) (by decide) (by decide) (by simp only [Nat.mul_zero, Nat.add_zero]; exact (Nat.mod_add_div _ _).symm)
  exact this
theorem wv_eq {x y : Nat} (hx : x < K4) (hy : y < K4) : ([(wd x 0 : Int), (wd x 1 : Int), (wd x 2 : Int), (wd x 3 : Int)] = [(wd y 0 : Int), (wd y 1 : Int), (wd y 2 : Int), (wd y 3 : Int)]) ↔ x = y := by
  constructor
  · intro h
    simp only [List.cons.injEq, Int.natCast_inj, and_true] at h
    rw [wd_sum x hx, wd_sum y hy, h.1, h.2.1, h.2.2.1, h.2.2.2]
  · rintro rfl
    rfl

/-! ### how many bits -/
def bl (x : Nat) : Nat := if x = 0 then 0 else Nat.log2 x + 1
theorem bl_zero : bl 0 = 0 := rfl
theorem bl_uniq {x m : Nat} (h1 : 2 ^ m ≤ x) (h2 : x < 2 ^ (m + 1)) : bl x = m + 1 := by
  have h0 : x ≠ 0 := by
    have := Nat.two_pow_pos m
    omega
  rw [bl, if_neg h0, (Nat.log2_eq_iff h0).2 ⟨h1, h2⟩]
theorem bl_spec {x : Nat} (h0 : x ≠ 0) : ∃ m, bl x = m + 1 ∧ 2 ^ m ≤ x ∧ x < 2 ^ (m + 1) := by
  refine ⟨Nat.log2 x, by rw [bl, if_neg h0], ?_⟩
  exact (Nat.log2_eq_iff h0).1 rfl
theorem bl_shr {x : Nat} (k : Nat) (h : 2 ^ k ≤ x) : bl x = k + bl (x / 2 ^ k) := by
  have hy : x / 2 ^ k ≠ 0 := by
    have := (Nat.le_div_iff_mul_le (Nat.two_pow_pos k)).2 (show 1 * 2 ^ k ≤ x by omega)
    omega
  obtain ⟨m, e, h1, h2⟩ := bl_spec hy
  rw [e]
  have h3 : 2 ^ m * 2 ^ k ≤ x := (Nat.le_div_iff_mul_le (Nat.two_pow_pos k)).1 h1
  have h4 : x < 2 ^ (m + 1) * 2 ^ k := (Nat.div_lt_iff_lt_mul (Nat.two_pow_pos k)).1 h2
  rw [← Nat.pow_add] at h3 h4
  rw [bl_uniq (m := m + k) h3 (by rwa [show m + k + 1 = m + 1 + k from by omega])]
  omega
theorem bl_lt (x : Nat) : x < 2 ^ bl x := by
  by_cases h0 : x = 0
  · subst h0
    decide
  · obtain ⟨m, e, _, h2⟩ := bl_spec h0
    rw [e]
    exact h2
theorem bl_le {x k : Nat} (h : x < 2 ^ k) : bl x ≤ k := by
  by_cases h0 : x = 0
  · subst h0
    exact Nat.zero_le _
  · obtain ⟨m, e, h1, _⟩ := bl_spec h0
    rw [e]
    exact (Nat.pow_lt_pow_iff_right (by decide)).1 (Nat.lt_of_le_of_lt h1 h)
def tab8 : List UInt8 := [0, 1, 2, 2, 3, 3, 3, 3, 4, 4, 4, 4, 4, 4, 4, 4, 5, 5, 5, 5, 5, 5, 5, 5, 5, 5, 5, 5, 5, 5, 5, 5, 6, 6, 6, 6, 6, 6, 6, 6, 6, 6, 6, 6, 6, 6, 6, 6, 6, 6, 6, 6, 6, 6, 6, 6, 6, 6, 6, 6, 6, 6, 6, 6, 7, 7, 7, 7, 7, 7, 7, 7, 7, 7, 7, 7, 7, 7, 7, 7, 7, 7, 7, 7, 7, 7, 7, 7, 7, 7, 7, 7, 7, 7, 7, 7, 7, 7, 7, 7, 7, 7, 7, 7, 7, 7, 7, 7, 7, 7, 7, 7, 7, 7, 7, 7, 7, 7, 7, 7, 7, 7, 7, 7, 7, 7, 7, 7, 8, 8, 8, 8, 8, 8, 8, 8, 8, 8, 8, 8, 8, 8, 8, 8, 8, 8, 8, 8, 8, 8, 8, 8, 8, 8, 8, 8, 8, 8, 8, 8, 8, 8, 8, 8, 8, 8, 8, 8, 8, 8, 8, 8, 8, 8, 8, 8, 8, 8, 8, 8, 8, 8, 8, 8, 8, 8, 8, 8, 8, 8, 8, 8, 8, 8, 8, 8, 8, 8, 8, 8, 8, 8, 8, 8, 8, 8, 8, 8, 8, 8, 8, 8, 8, 8, 8, 8, 8, 8, 8, 8, 8, 8, 8, 8, 8, 8, 8, 8, 8, 8, 8, 8, 8, 8, 8, 8, 8, 8, 8, 8, 8, 8, 8, 8, 8, 8, 8, 8, 8, 8, 8, 8, 8, 8, 8, 8]
theorem tab8_bl : ∀ i, i < 256 → tab8[i]? = some (UInt8.ofNat (bl i)) := by decide +kernel
theorem bl_w {x : Nat} (hx : x < 256) : (UInt8.ofNat (bl x)).toNat = bl x := by
  have := bl_le (k := 8) hx
  rw [UInt8.toNat_ofNat']
  omega
theorem wd_top3 {x : Nat} (h : 0 < wd x 3) (hx : x < K4) : bl x = 192 + bl (wd x 3) := by
  have e : wd x 3 = x / 2 ^ 192 := by
    show x / (K * K * K) % K = _
    rw [show (2 : Nat) ^ 192 = K * K * K from by decide]
    exact Nat.mod_eq_of_lt (by simp only [K, K4] at *; omega)
  rw [e] at h ⊢
  exact bl_shr 192 (by have := Nat.div_pos_iff.1 h; omega)
theorem wd_top2 {x : Nat} (h3 : wd x 3 = 0) (h : 0 < wd x 2) (hx : x < K4) : bl x = 128 + bl (wd x 2) := by
  have e : wd x 2 = x / 2 ^ 128 := by
    have s := wd_sum x hx
    have b0 := wd_lt x 0
    have b1 := wd_lt x 1
    generalize wd x 0 = a at *
    generalize wd x 1 = b at *
    generalize wd x 2 = c at *
    rw [h3] at s
    simp only [K] at *
    omega
  rw [e] at h ⊢
  exact bl_shr 128 (by have := Nat.div_pos_iff.1 h; omega)
theorem wd_top1 {x : Nat} (h3 : wd x 3 = 0) (h2 : wd x 2 = 0) (h : 0 < wd x 1) (hx : x < K4) : bl x = 64 + bl (wd x 1) := by
  have e : wd x 1 = x / 2 ^ 64 := by
    have s := wd_sum x hx
    have b0 := wd_lt x 0
    generalize wd x 0 = a at *
    generalize wd x 1 = b at *
    rw [h3, h2] at s
    simp only [K] at *
    omega
  rw [e] at h ⊢
  exact bl_shr 64 (by have := Nat.div_pos_iff.1 h; omega)
theorem wd_top0 {x : Nat} (h3 : wd x 3 = 0) (h2 : wd x 2 = 0) (h1 : wd x 1 = 0) (hx : x < K4) : x = wd x 0 := by
  have s := wd_sum x hx
  rw [h3, h2, h1] at s
  omega
theorem run_strIdx {P : Program} {t : TypeId} {s : List UInt8} {k : IntKind} {i : Nat} {b : UInt8} (ht : isStr P t = true) (hb : s[i]? = some b) (w : World) : (Instr.index t (.string (strOf s)) (.int k (i : Int))).run P w = .ok (.int .u8 (b.toNat : Int)) w := by
  have h1 : (strOf s)[i]? = some b := by
    have hi : i < s.length := (List.getElem?_eq_some_iff.1 hb).1
    have hs : i < (strOf s).size := by rw [strOf_size]; exact hi
    rw [getElem?_pos (strOf s) i hs]
    have : (strOf s)[i] = s[i] := by
      show (strOf s).data[i] = s[i]
      simp [strOf]
      rfl
    rw [this, ← hb, List.getElem?_eq_getElem hi]
    rfl
  simp [Instr.index, asIntOf, run_underlying (isStr_spec ht), h1]
end Go.Proofs.Ytgmggjnoegelgaa
