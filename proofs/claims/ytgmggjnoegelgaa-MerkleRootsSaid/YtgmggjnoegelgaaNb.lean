/- Sums, differences, products, halves, quotients of digits: one round of each. Plain arithmetic. -/
import Derived.Test.YtgmggjnoegelgaaNa
namespace Go.Proofs.Ytgmggjnoegelgaa
open Go.RowKit

theorem dgt_top {n i : Nat} (h : ndg n ≤ i) : n % 65536 ^ i = n := Nat.mod_eq_of_lt (ndg_le.1 h)
theorem add_round {a b i c : Nat} {xs : List Nat} (hl : xs.length = i) (hv : val xs + 65536 ^ i * c = a % 65536 ^ i + b % 65536 ^ i) :
    val (xs ++ [(c + dgt a i + dgt b i) % 65536]) + 65536 ^ (i + 1) * ((c + dgt a i + dgt b i) / 65536) = a % 65536 ^ (i + 1) + b % 65536 ^ (i + 1) := by
  rw [val_snoc, low_step, low_step, hl, Nat.pow_succ, Nat.mul_assoc, Nat.add_assoc, ← Nat.mul_add, Nat.mod_add_div, Nat.mul_add, Nat.mul_add]
  omega
theorem add_done {a b i : Nat} {xs : List Nat} (ha : ndg a ≤ i) (hb : ndg b ≤ i) (hv : val xs + 65536 ^ i * 0 = a % 65536 ^ i + b % 65536 ^ i) : val xs = a + b := by
  rw [dgt_top ha, dgt_top hb] at hv
  omega
theorem sub_round {a b i c x : Nat} {xs : List Nat} (hl : xs.length = i) (hv : a % 65536 ^ i + 65536 ^ i * c = b % 65536 ^ i + val xs) (hx : x = 65536 + dgt a i - dgt b i - c) (hc : c ≤ 1) :
    a % 65536 ^ (i + 1) + 65536 ^ (i + 1) * (1 - x / 65536) = b % 65536 ^ (i + 1) + val (xs ++ [x % 65536]) := by
  have h1 := dgt_lt a i
  have h2 := dgt_lt b i
  have e : dgt a i + 65536 * (1 - x / 65536) = c + dgt b i + x % 65536 := by omega
  rw [val_snoc, low_step, low_step, hl, Nat.pow_succ, Nat.mul_assoc, Nat.add_assoc, ← Nat.mul_add, e, Nat.mul_add, Nat.mul_add]
  omega
theorem sub_done {a b i c : Nat} {xs : List Nat} (hok : ok16 xs) (hl : xs.length = i) (ha : ndg a ≤ i) (hba : b ≤ a) (hc : c ≤ 1) (hv : a % 65536 ^ i + 65536 ^ i * c = b % 65536 ^ i + val xs) : val xs = a - b := by
  have h1 := ndg_le.1 ha
  have h2 := val_lt hok
  rw [hl] at h2
  rw [Nat.mod_eq_of_lt h1, Nat.mod_eq_of_lt (Nat.lt_of_le_of_lt hba h1)] at hv
  have : c = 0 ∨ c = 1 := by omega
  rcases this with rfl | rfl <;> omega
theorem mul_round {a b i k c d t : Nat} {xs : List Nat} (hd : xs[i + k]? = some d) (ht : t = c + d + dgt a i * dgt b k)
    (hv : val xs + 65536 ^ (i + k) * c = a % 65536 ^ i * b + dgt a i * (65536 ^ i * (b % 65536 ^ k))) :
    val (xs.set (i + k) (t % 65536)) + 65536 ^ (i + (k + 1)) * (t / 65536) = a % 65536 ^ i * b + dgt a i * (65536 ^ i * (b % 65536 ^ (k + 1))) := by
  have hs := val_set (v := t % 65536) hd
  have e1 : 65536 ^ (i + (k + 1)) * (t / 65536) + 65536 ^ (i + k) * (t % 65536) = 65536 ^ (i + k) * t := by
    rw [← Nat.add_assoc, Nat.pow_succ, Nat.mul_assoc, ← Nat.mul_add, Nat.div_add_mod]
  have e2 : dgt a i * (65536 ^ i * (b % 65536 ^ (k + 1))) = dgt a i * (65536 ^ i * (b % 65536 ^ k)) + 65536 ^ (i + k) * (dgt a i * dgt b k) := by
    rw [low_step, Nat.mul_add, Nat.mul_add, Nat.pow_add]
    congr 1
    simp only [Nat.mul_assoc, Nat.mul_left_comm]
  have e3 : 65536 ^ (i + k) * t = 65536 ^ (i + k) * c + 65536 ^ (i + k) * d + 65536 ^ (i + k) * (dgt a i * dgt b k) := by rw [ht, Nat.mul_add, Nat.mul_add]
  omega
theorem mul_start {a b i : Nat} {xs : List Nat} (hv : val xs = a % 65536 ^ i * b) : val xs + 65536 ^ (i + 0) * 0 = a % 65536 ^ i * b + dgt a i * (65536 ^ i * (b % 65536 ^ 0)) := by
  rw [Nat.pow_zero, Nat.mod_one, hv]
  simp
theorem mul_whole {a b i k : Nat} (hk : ndg b ≤ k) : a % 65536 ^ i * b + dgt a i * (65536 ^ i * (b % 65536 ^ k)) = a % 65536 ^ (i + 1) * b := by
  rw [dgt_top hk, low_step, Nat.add_mul, ← Nat.mul_assoc, Nat.mul_comm (dgt a i)]
theorem mul_next {a b i k : Nat} {xs : List Nat} (hk : ndg b ≤ k) (hv : val xs + 65536 ^ (i + k) * 0 = a % 65536 ^ i * b + dgt a i * (65536 ^ i * (b % 65536 ^ k))) : val xs = a % 65536 ^ (i + 1) * b := by
  rw [mul_whole hk] at hv
  omega
theorem mul_in {a b i k c : Nat} {xs : List Nat} (hv : val xs + 65536 ^ (i + k) * c = a % 65536 ^ i * b + dgt a i * (65536 ^ i * (b % 65536 ^ k))) (h : k < ndg b ∨ 0 < c) : k ≤ ndg b := by
  by_cases hk : k < ndg b
  · omega
  · have hc : 0 < c := by omega
    rw [mul_whole (by omega)] at hv
    have h1 : a % 65536 ^ (i + 1) * b < 65536 ^ (i + 1) * 65536 ^ ndg b := Nat.mul_lt_mul'' (Nat.mod_lt _ (pow_pos16 _)) (ndg_pow b)
    rw [← Nat.pow_add] at h1
    have h2 : 65536 ^ (i + k) * 1 ≤ 65536 ^ (i + k) * c := Nat.mul_le_mul_left _ hc
    have h3 : 65536 ^ (i + k) < 65536 ^ (i + 1 + ndg b) := by omega
    have h4 := (Nat.pow_lt_pow_iff_right (by decide : 1 < 65536)).1 h3
    omega
theorem mul_small {c d x y : Nat} (hc : c < 65536) (hd : d < 65536) (hx : x < 65536) (hy : y < 65536) : x * y ≤ 4294836225 ∧ c + d + x * y < 4294967296 := by
  have : x * y ≤ 65535 * 65535 := Nat.mul_le_mul (by omega) (by omega)
  omega
theorem mul_done {a b i : Nat} {xs : List Nat} (hi : ndg a ≤ i) (hv : val xs = a % 65536 ^ i * b) : val xs = a * b := by rw [hv, dgt_top hi]
theorem half_round {a m r x : Nat} {xs : List Nat} (hm : 0 < m) (h0 : xs[m - 1]? = some 0) (hx : x = r * 65536 + dgt a (m - 1)) (hv : 2 * val xs + r * 65536 ^ m = a / 65536 ^ m * 65536 ^ m) :
    2 * val (xs.set (m - 1) (x / 2)) + x % 2 * 65536 ^ (m - 1) = a / 65536 ^ (m - 1) * 65536 ^ (m - 1) := by
  have hs := val_set (v := x / 2) h0
  have hh := high_step a (m - 1)
  rw [show m - 1 + 1 = m from by omega] at hh
  have hp : 65536 ^ m = 65536 ^ (m - 1) * 65536 := by rw [← Nat.pow_succ, show (m - 1).succ = m from by omega]
  rw [hh]
  rw [hp] at hv ⊢
  generalize 65536 ^ (m - 1) = p at *
  generalize a / (p * 65536) = q at *
  generalize dgt a (m - 1) = d at *
  have e1 : p * x = p * (r * 65536) + p * d := by rw [hx, Nat.mul_add]
  have e2 : p * x = p * (x % 2) + p * (2 * (x / 2)) := by rw [← Nat.mul_add, Nat.mod_add_div]
  have e3 : p * (2 * (x / 2)) = 2 * (p * (x / 2)) := by rw [Nat.mul_left_comm]
  have e4 : r * (p * 65536) = p * (r * 65536) := by rw [Nat.mul_left_comm]
  have e5 : (65536 * q + d) * p = q * (p * 65536) + p * d := by rw [Nat.add_mul, Nat.mul_comm d p, Nat.mul_comm 65536 q, Nat.mul_assoc, Nat.mul_comm 65536 p]
  have e6 : x % 2 * p = p * (x % 2) := Nat.mul_comm _ _
  omega
theorem half_done {a r m : Nat} {xs : List Nat} (hm : m = 0) (hr : r < 2) (hv : 2 * val xs + r * 65536 ^ m = a / 65536 ^ m * 65536 ^ m) : val xs = a / 2 ∧ r = a % 2 := by
  subst hm
  rw [Nat.pow_zero, Nat.div_one] at hv
  omega
theorem zero_set {xs : List Nat} {m j v : Nat} (h : ∀ k, k < m → xs[k]? = some 0) (hj : m ≤ j + 1) : ∀ k, k < m - 1 → (xs.set j v)[k]? = some 0 := by
  intro k hk
  rw [List.getElem?_set_ne (by omega)]
  exact h k (by omega)
theorem zeros_get (n : Nat) : ∀ k, k < n → (List.replicate n 0)[k]? = some 0 := by
  intro k hk
  rw [List.getElem?_replicate, if_pos hk]

/-! ### bits -/
/-- The number of bits (1 or not), the lowest first. -/
def bval : List Nat → Nat
  | [] => 0
  | x :: xs => (if x = 1 then 1 else 0) + 2 * bval xs
/-- The bits of a number. -/
def bitsL (a : Nat) : List Nat := (List.range (bl a)).map fun i => a / 2 ^ i % 2
theorem bitsL_length (a : Nat) : (bitsL a).length = bl a := by simp [bitsL]
theorem bitsL_get {a i : Nat} (h : i < bl a) : (bitsL a)[i]? = some (a / 2 ^ i % 2) := by simp [bitsL, h]
theorem bitsL_at {a i d : Nat} (h : (bitsL a)[i]? = some d) : d = a / 2 ^ i % 2 := by
  have hi : i < bl a := by
    have := (List.getElem?_eq_some_iff.1 h).1
    rwa [bitsL_length] at this
  rw [bitsL_get hi] at h
  injection h with h
  exact h.symm
theorem bval_append (a b : List Nat) : bval (a ++ b) = bval a + 2 ^ a.length * bval b := by
  induction a with
  | nil => simp [bval]
  | cons d a ih =>
    simp only [List.cons_append, bval, List.length_cons]
    rw [ih, Nat.mul_add, Nat.pow_succ, Nat.mul_comm (2 ^ a.length) 2, Nat.mul_assoc, Nat.add_assoc]
theorem bval_drop {l : List Nat} {m d : Nat} (hm : 0 < m) (h : l[m - 1]? = some d) : bval (l.drop (m - 1)) = (if d = 1 then 1 else 0) + 2 * bval (l.drop m) := by
  have hl := (List.getElem?_eq_some_iff.1 h).1
  rw [List.drop_eq_getElem_cons hl, (List.getElem?_eq_some_iff.1 h).2, show m - 1 + 1 = m from by omega, bval]
theorem bval_lt (l : List Nat) : bval l < 2 ^ l.length := by
  induction l with
  | nil => simp [bval]
  | cons x l ih =>
    simp only [bval, List.length_cons, Nat.pow_succ]
    split <;> omega
theorem bval_set {xs : List Nat} {j : Nat} (h : xs[j]? = some 0) : bval (xs.set j 1) = bval xs + 2 ^ j := by
  induction xs generalizing j with
  | nil => simp at h
  | cons x xs ih =>
    cases j with
    | zero =>
      simp at h
      subst h
      show (if (1 : Nat) = 1 then 1 else 0) + 2 * bval xs = (if (0 : Nat) = 1 then 1 else 0) + 2 * bval xs + 2 ^ 0
      rw [if_pos rfl, if_neg (by decide), Nat.pow_zero]
      omega
    | succ j =>
      have := ih (j := j) (by simpa using h)
      simp only [List.set_cons_succ, bval, Nat.pow_succ]
      omega
theorem bval_zeros (n : Nat) : bval (List.replicate n 0) = 0 := by
  induction n with
  | zero => rfl
  | succ n ih => rw [List.replicate_succ, bval, ih, if_neg (by decide)]
theorem ndg_two {n k : Nat} (h : n < 2 ^ k) : ndg n ≤ k := ndg_le.2 (Nat.lt_of_lt_of_le h (Nat.pow_le_pow_left (by decide) k))
theorem ndg_bval (l : List Nat) : ndg (bval l) ≤ l.length := ndg_two (bval_lt l)
theorem ndg_mono {a b : Nat} (h : a ≤ b) : ndg a ≤ ndg b := ndg_le.2 (Nat.lt_of_le_of_lt h (ndg_pow b))
theorem ndg_two_mul {a b : Nat} (h : a ≤ 2 * b + 1) : ndg a ≤ ndg b + 1 := by
  refine ndg_le.2 ?_
  have := ndg_pow b
  rw [Nat.pow_succ]
  omega
theorem ndg_bl {a k : Nat} (h : ndg a ≤ k) : bl a ≤ 16 * k := by
  have h1 := ndg_le.1 h
  rw [show (65536 : Nat) = 2 ^ 16 from rfl, ← Nat.pow_mul] at h1
  exact bl_le h1
theorem half_pow (a i : Nat) : a / 2 ^ i / 2 = a / 2 ^ (i + 1) := by rw [Nat.div_div_eq_div_mul, Nat.pow_succ]
theorem bl_more {a i : Nat} (h : a / 2 ^ i ≠ 0) : i < bl a := by
  have h1 := bl_lt a
  by_cases hi : i < bl a
  · exact hi
  · exfalso
    exact h (Nat.div_eq_of_lt (Nat.lt_of_lt_of_le h1 (Nat.pow_le_pow_right (by decide) (by omega))))
theorem bl_end {a i : Nat} (h : a / 2 ^ i = 0) : bl a ≤ i := by
  refine bl_le ?_
  have := (Nat.div_eq_zero_iff).1 h
  have h2 := Nat.two_pow_pos i
  omega
theorem bits_done {a i : Nat} (hi : i ≤ bl a) (h : a / 2 ^ i = 0) : (List.range i).map (fun j => a / 2 ^ j % 2) = bitsL a := by
  rw [bitsL, show bl a = i from Nat.le_antisymm (bl_end h) hi]
theorem bits_next (a i : Nat) : (List.range i).map (fun j => a / 2 ^ j % 2) ++ [a / 2 ^ i % 2] = (List.range (i + 1)).map fun j => a / 2 ^ j % 2 := by simp [List.range_succ]
theorem ndg_pos {a : Nat} : 0 < ndg a ↔ a ≠ 0 := by
  rw [ndg_lt, Nat.pow_zero]
  omega
/-- One round of division, bit by bit. -/
theorem quo_up {a b m r q : Nat} {xs : List Nat} (hb : 0 < b) (hm : 0 < m) (h0 : xs[m - 1]? = some 0) (hr : r = a / 2 ^ m % b) (hq : q = 2 * r + a / 2 ^ (m - 1) % 2) (hv : bval xs = a / 2 ^ m / b * 2 ^ m) (hge : b ≤ q) :
    q - b = a / 2 ^ (m - 1) % b ∧ bval (xs.set (m - 1) 1) = a / 2 ^ (m - 1) / b * 2 ^ (m - 1) := by
  have hs := half_step a hm
  have hb2 : a / 2 ^ (m - 1) % 2 < 2 := Nat.mod_lt _ (by decide)
  generalize hbb : a / 2 ^ (m - 1) % 2 = t at *
  obtain ⟨h1, h2⟩ := div_up hb hs hb2 (by rw [← hr]; omega)
  rw [← hr] at h2
  refine ⟨by rw [h2]; omega, ?_⟩
  rw [bval_set h0, hv, h1, pow_half hm, Nat.add_mul, Nat.one_mul, Nat.mul_left_comm, Nat.mul_assoc]
theorem quo_down {a b m r q : Nat} {xs : List Nat} (hb : 0 < b) (hm : 0 < m) (hr : r = a / 2 ^ m % b) (hq : q = 2 * r + a / 2 ^ (m - 1) % 2) (hv : bval xs = a / 2 ^ m / b * 2 ^ m) (hlt : q < b) :
    q = a / 2 ^ (m - 1) % b ∧ bval xs = a / 2 ^ (m - 1) / b * 2 ^ (m - 1) := by
  have hs := half_step a hm
  generalize hbb : a / 2 ^ (m - 1) % 2 = t at *
  obtain ⟨h1, h2⟩ := div_down hb hs (by rw [← hr]; omega)
  rw [← hr] at h2
  refine ⟨by rw [h2]; exact hq, ?_⟩
  rw [hv, h1, pow_half hm, Nat.mul_left_comm, Nat.mul_assoc]

/-! ### words -/
theorem dig_room {V i : Nat} (hV : V < 65536 ^ i) (hi : i < 16) {d : Nat} (hd : d < 65536) : wd V (i / 4) < 2 ^ (16 * (i % 4)) ∧ d * 2 ^ (16 * (i % 4)) < K ∧ wd V (i / 4) + d * 2 ^ (16 * (i % 4)) < K := by
  have h1 : wd V (i / 4) < 2 ^ (16 * (i % 4)) := by
    rw [wd_div V (by omega)]
    refine Nat.lt_of_le_of_lt (Nat.mod_le _ _) ?_
    rw [Nat.div_lt_iff_lt_mul (Nat.two_pow_pos _), ← Nat.pow_add]
    rw [show (65536 : Nat) = 2 ^ 16 from rfl, ← Nat.pow_mul] at hV
    rwa [show 16 * (i % 4) + 64 * (i / 4) = 16 * i from by omega]
  have h2 : (d + 1) * 2 ^ (16 * (i % 4)) ≤ K := by
    have h3 : (d + 1) * 2 ^ (16 * (i % 4)) ≤ 65536 * 2 ^ (16 * (i % 4)) := Nat.mul_le_mul_right _ (by omega)
    have h4 : 65536 * 2 ^ (16 * (i % 4)) ≤ 65536 * 2 ^ 48 := Nat.mul_le_mul_left _ (Nat.pow_le_pow_right (by decide) (by omega))
    have h5 : 65536 * 2 ^ 48 = K := by decide
    omega
  rw [Nat.add_mul, Nat.one_mul] at h2
  have := Nat.two_pow_pos (16 * (i % 4))
  exact ⟨h1, by omega, by omega⟩
theorem setword {V j p : Nat} (hK : V < K4) (hj : j < 4) (h2 : wd V j + p < K) :
    ([.int .u64 (wd V 0 : Int), .int .u64 (wd V 1 : Int), .int .u64 (wd V 2 : Int), .int .u64 (wd V 3 : Int)] : List Value).set (0 + j * 1) (.int .u64 ((wd V j + p : Nat) : Int)) =
      [.int .u64 (wd (V + 2 ^ (64 * j) * p) 0 : Int), .int .u64 (wd (V + 2 ^ (64 * j) * p) 1 : Int), .int .u64 (wd (V + 2 ^ (64 * j) * p) 2 : Int), .int .u64 (wd (V + 2 ^ (64 * j) * p) 3 : Int)] := by
  have s := wd_sum V hK
  have b0 := wd_lt V 0
  have b1 := wd_lt V 1
  have b2 := wd_lt V 2
  have b3 := wd_lt V 3
  match j, hj with
  | 0, _ =>
    have h := wd_of (wd V 0 + p) (wd V 1) (wd V 2) (wd V 3) h2 b1 b2 b3
    rw [show wd V 0 + p + K * wd V 1 + K * K * wd V 2 + K * K * K * wd V 3 = V + 2 ^ (64 * 0) * p from by rw [show (2 : Nat) ^ (64 * 0) = 1 from rfl]; omega] at h
    rw [h.1, h.2.1, h.2.2.1, h.2.2.2]
    rfl
  | 1, _ =>
    have h := wd_of (wd V 0) (wd V 1 + p) (wd V 2) (wd V 3) b0 h2 b2 b3
    rw [show wd V 0 + K * (wd V 1 + p) + K * K * wd V 2 + K * K * K * wd V 3 = V + 2 ^ (64 * 1) * p from by rw [show (2 : Nat) ^ (64 * 1) = K from by decide]; simp only [K] at *; omega] at h
    rw [h.1, h.2.1, h.2.2.1, h.2.2.2]
    rfl
  | 2, _ =>
    have h := wd_of (wd V 0) (wd V 1) (wd V 2 + p) (wd V 3) b0 b1 h2 b3
    rw [show wd V 0 + K * wd V 1 + K * K * (wd V 2 + p) + K * K * K * wd V 3 = V + 2 ^ (64 * 2) * p from by rw [show (2 : Nat) ^ (64 * 2) = K * K from by decide]; simp only [K] at *; omega] at h
    rw [h.1, h.2.1, h.2.2.1, h.2.2.2]
    rfl
  | 3, _ =>
    have h := wd_of (wd V 0) (wd V 1) (wd V 2) (wd V 3 + p) b0 b1 b2 h2
    rw [show wd V 0 + K * wd V 1 + K * K * wd V 2 + K * K * K * (wd V 3 + p) = V + 2 ^ (64 * 3) * p from by rw [show (2 : Nat) ^ (64 * 3) = K * K * K from by decide]; simp only [K] at *; omega] at h
    rw [h.1, h.2.1, h.2.2.1, h.2.2.2]
    rfl
theorem setdig {V i d : Nat} (hV : V < 65536 ^ i) (hi : i < 16) (hd : d < 65536) :
    ([.int .u64 (wd V 0 : Int), .int .u64 (wd V 1 : Int), .int .u64 (wd V 2 : Int), .int .u64 (wd V 3 : Int)] : List Value).set (0 + i / 4 * 1) (.int .u64 ((wd V (i / 4) + d * 2 ^ (16 * (i % 4)) : Nat) : Int)) =
      [.int .u64 (wd (V + 65536 ^ i * d) 0 : Int), .int .u64 (wd (V + 65536 ^ i * d) 1 : Int), .int .u64 (wd (V + 65536 ^ i * d) 2 : Int), .int .u64 (wd (V + 65536 ^ i * d) 3 : Int)] := by
  obtain ⟨h0, h1, h2⟩ := dig_room hV hi hd
  have hK : V < K4 := Nat.lt_of_lt_of_le hV (by
    have : 65536 ^ i ≤ 65536 ^ 16 := Nat.pow_le_pow_right (by decide) (by omega)
    exact Nat.le_trans this (by decide))
  have e : 65536 ^ i * d = 2 ^ (64 * (i / 4)) * (d * 2 ^ (16 * (i % 4))) := by
    rw [Nat.mul_comm d, ← Nat.mul_assoc, ← Nat.pow_add, show 64 * (i / 4) + 16 * (i % 4) = 16 * i from by omega, Nat.pow_mul]
  rw [e]
  exact setword hK (by omega) h2
theorem word16 {p : Nat} (hp : p < K) : val [p / 2 ^ 0 % 65536, p / 2 ^ 16 % 65536, p / 2 ^ 32 % 65536, p / 2 ^ 48 % 65536] = p := by
  have e1 : p / 2 ^ 32 = p / 2 ^ 16 / 2 ^ 16 := by rw [Nat.div_div_eq_div_mul]
  have e2 : p / 2 ^ 48 = p / 2 ^ 16 / 2 ^ 16 / 2 ^ 16 := by rw [Nat.div_div_eq_div_mul, Nat.div_div_eq_div_mul]
  rw [e1, e2]
  simp only [val, Nat.pow_zero, Nat.div_one, Nat.mul_zero, Nat.add_zero]
  generalize hq : p / 2 ^ 16 = q
  generalize hr : q / 2 ^ 16 = r
  generalize hs : r / 2 ^ 16 = s
  simp only [K] at *
  omega
theorem words_digs {x : Nat} (hx : x < K4) {ds : List Nat} (hd : ds = [wd x 0 / 2 ^ 0 % 65536, wd x 0 / 2 ^ 16 % 65536, wd x 0 / 2 ^ 32 % 65536, wd x 0 / 2 ^ 48 % 65536] ++ ([wd x 1 / 2 ^ 0 % 65536, wd x 1 / 2 ^ 16 % 65536, wd x 1 / 2 ^ 32 % 65536, wd x 1 / 2 ^ 48 % 65536] ++
    ([wd x 2 / 2 ^ 0 % 65536, wd x 2 / 2 ^ 16 % 65536, wd x 2 / 2 ^ 32 % 65536, wd x 2 / 2 ^ 48 % 65536] ++ [wd x 3 / 2 ^ 0 % 65536, wd x 3 / 2 ^ 16 % 65536, wd x 3 / 2 ^ 32 % 65536, wd x 3 / 2 ^ 48 % 65536]))) : val ds = x ∧ ok16 ds := by
  constructor
  · have s := wd_sum x hx
    rw [hd, val_append, val_append, val_append, word16 (wd_lt x 0), word16 (wd_lt x 1), word16 (wd_lt x 2), word16 (wd_lt x 3)]
    simp only [List.length_cons, List.length_nil, Nat.zero_add, Nat.reduceAdd, Nat.reducePow]
    generalize wd x 0 = p0 at *
    generalize wd x 1 = p1 at *
    generalize wd x 2 = p2 at *
    generalize wd x 3 = p3 at *
    simp only [K] at *
    omega
  · intro y hy
    rw [hd] at hy
    simp only [List.mem_append, List.mem_cons, List.not_mem_nil, or_false] at hy
    rcases hy with (rfl | rfl | rfl | rfl) | (rfl | rfl | rfl | rfl) | (rfl | rfl | rfl | rfl) | rfl | rfl | rfl | rfl <;> exact Nat.mod_lt _ (by decide)

/-! ### the machine's operations -/
theorem n_rem (a k : Nat) : Int.tmod (a : Int) (k : Int) = ((a % k : Nat) : Int) := (Int.ofNat_tmod a k).symm
theorem n_quo {a : Nat} (k : Nat) (h : a < K) : IntKind.u64.wrap (Int.tdiv (a : Int) (k : Int)) = ((a / k : Nat) : Int) := by
  rw [← Int.ofNat_tdiv, IntKind.wrap_u64]
  have := Nat.div_le_self a k
  simp only [K] at h
  generalize a / k = q at *
  omega
theorem i_quo {a : Nat} (k : Nat) (h : a ≤ 9223372036854775807) : IntKind.i64.wrap (Int.tdiv (a : Int) (k : Int)) = ((a / k : Nat) : Int) := by
  rw [← Int.ofNat_tdiv]
  have := Nat.div_le_self a k
  generalize a / k = q at *
  rw [in_i64 (by omega)]
theorem words_end {n i V : Nat} (hV : V = n % 65536 ^ i) (h : i = 16 ∨ i < 16 ∧ ndg n ≤ i) : V = n % K4 := by
  rcases h with rfl | ⟨h1, h2⟩
  · rw [hV]
  · have h3 := ndg_le.1 h2
    have h4 : 65536 ^ i ≤ 65536 ^ 16 := Nat.pow_le_pow_right (by decide) (by omega)
    rw [hV, Nat.mod_eq_of_lt h3, Nat.mod_eq_of_lt (Nat.lt_of_lt_of_le h3 (Nat.le_trans h4 (by decide)))]
theorem words_over (n : Nat) : (decide ((16 : Int) < ((ndg n : Nat) : Int))) = decide (K4 ≤ n) := by
  rw [Bool.eq_iff_iff]
  simp only [decide_eq_true_eq]
  have h := ndg_lt (n := n) (i := 16)
  have e : 65536 ^ 16 = K4 := by decide
  rw [e] at h
  omega
theorem max_int (a b : Nat) : (if (b : Int) > (a : Int) then (b : Int) else (a : Int)) = ((max a b : Nat) : Int) := by
  split <;> omega
theorem min_int (a b : Nat) : (if (b : Int) < (a : Int) then (b : Int) else (a : Int)) = ((min a b : Nat) : Int) := by
  split <;> omega
theorem cmp_high {a b p : Nat} (h : a / p < b / p) : a < b := by
  by_cases hh : a < b
  · exact hh
  · have := Nat.div_le_div_right (c := p) (show b ≤ a by omega)
    omega
theorem ok_at {ds : List Nat} (h : ok16 ds) {j d : Nat} (hd : ds[j]? = some d) : d < 65536 := h d (List.mem_of_getElem? hd)

/-- A round's end inside a block. -/
theorem GL.againQ {P : Program} {ops : Array Oper} {i n : Nat} {M : FM} {w : World} {X : Type} {Mx : X → FM} {J : X → World → Prop} {μ : X → Nat} {x : X} {Q' : Exit → Act → World → Prop} (hq : ∀ a w, Again n Mx J μ x a w → Q' .normal a w)
    (x' : X) (ts : List Nat) (hi : Nat.ble ops.size i = true) (hp : pick ts M = some (Mx x')) (hμ : μ x' < μ x) (hJ : J x' w) : GL P ops Q' i n M w :=
  GL.done hi fun F hF hM => hq _ _ ⟨x', hμ, hJ, F, rfl, hF, hM.pick hp⟩

theorem GL.againB {P : Program} {ops : Array Oper} {i n id : Nat} {M : FM} {w : World} {X : Type} {Mx : X → FM} {J : X → World → Prop} {μ : X → Nat} {x : X} {Q : Exit → Act → World → Prop}
    (x' : X) (ts : List Nat) (hi : Nat.ble ops.size i = true) (hp : pick ts M = some (Mx x')) (hμ : μ x' < μ x) (hJ : J x' w) : GL P ops (Exit.inBlock id (Exit.then (Again n Mx J μ x) Q)) i n M w :=
  GL.done hi fun F hF hM => (⟨x', hμ, hJ, F, rfl, hF, hM.pick hp⟩ : Again n Mx J μ x ⟨F, []⟩ w)

theorem ndg_K4 {a : Nat} (h : a < K4) : ndg a ≤ 16 := ndg_le.2 (by
  have e : 65536 ^ 16 = K4 := by decide
  rw [e]
  exact h)
theorem ndg_K {a : Nat} (h : a < K) : ndg a ≤ 4 := ndg_le.2 (by
  have e : 65536 ^ 4 = K := by decide
  rw [e]
  exact h)
theorem ndg_add {a b i : Nat} (ha : ndg a ≤ i) (hb : ndg b ≤ i) : ndg (a + b) ≤ i + 1 := by
  have h1 := ndg_le.1 ha
  have h2 := ndg_le.1 hb
  refine ndg_le.2 ?_
  rw [Nat.pow_succ]
  omega
theorem ndg_mul {a b i j : Nat} (ha : ndg a ≤ i) (hb : ndg b ≤ j) : ndg (a * b) ≤ i + j := by
  refine ndg_le.2 ?_
  rw [Nat.pow_add]
  exact Nat.mul_lt_mul'' (ndg_le.1 ha) (ndg_le.1 hb)
theorem ndg_sub {a b i : Nat} (ha : ndg a ≤ i) : ndg (a - b) ≤ i := Nat.le_trans (ndg_mono (Nat.sub_le _ _)) ha
theorem ndg_div {a b i : Nat} (ha : ndg a ≤ i) : ndg (a / b) ≤ i := Nat.le_trans (ndg_mono (Nat.div_le_self _ _)) ha
theorem ndg_mod {a b i : Nat} (ha : ndg a ≤ i) : ndg (a % b) ≤ i := Nat.le_trans (ndg_mono (Nat.mod_le _ _)) ha

theorem cmp_gt0 {x y : Nat} : 0 < cmpN x y ↔ y < x := by
  unfold cmpN
  split
  · omega
  · split <;> omega
theorem cmp_le0 {x y : Nat} : cmpN x y ≤ 0 ↔ x ≤ y := by
  unfold cmpN
  split
  · omega
  · split <;> omega
/-- A quotient, rounded down or up. -/
def divQ (n d : Nat) (m : Bool) : Nat := n / d + if m = true ∧ n % d ≠ 0 then 1 else 0
def divF (n d : Nat) (m : Bool) : Bool := decide (divQ n d m ≤ 4611686018427387904)
def divV (n d : Nat) (m : Bool) : Nat := if divQ n d m ≤ 4611686018427387904 then divQ n d m else 0
theorem divQ_part (a u d : Nat) (m : Bool) : partQ a u d m = divQ (a * u) d m := rfl
theorem divQ_one {n d : Nat} (h : n % d ≠ 0) : divQ n d true = n / d + 1 := by rw [divQ, if_pos ⟨rfl, h⟩]
theorem divQ_none {n d : Nat} (h : n % d = 0) : divQ n d true = n / d := by rw [divQ, if_neg (fun q => q.2 h), Nat.add_zero]
theorem divQ_down (n d : Nat) : divQ n d false = n / d := by simp [divQ]
theorem div_fits {n d : Nat} {m : Bool} {q : Nat} (hq : divQ n d m = q) (h : q ≤ 4611686018427387904) : divF n d m = true ∧ divV n d m = q := ⟨decide_eq_true (by omega), by rw [divV, if_pos (by omega), hq]⟩
theorem div_over {n d : Nat} {m : Bool} {q : Nat} (hq : divQ n d m = q) (h : ¬ q ≤ 4611686018427387904) : divF n d m = false ∧ divV n d m = 0 := ⟨decide_eq_false (by omega), by rw [divV, if_neg (by omega)]⟩
theorem low_word {q : Nat} (h : q < K) : wd (q % K4) 0 = q := by
  rw [Nat.mod_eq_of_lt (Nat.lt_trans h (by decide))]
  show q % K = q
  exact Nat.mod_eq_of_lt h
/-- A part held against the document's quotient. -/
theorem part_told {a u d : Nat} {m : Bool} (ha : a ≤ MX) (hd : d ≠ 0) : (divF (a * u) d m = false → partE a u d m = 4 ∧ partV a u d m = 0) ∧ (divF (a * u) d m = true → partE a u d m = 0 ∧ partV a u d m = divV (a * u) d m) := by
  have hMX : MX = 4611686018427387904 := rfl
  constructor
  · intro h
    have h1 := of_decide_eq_false h
    exact part_over (by omega) hd (by rw [divQ_part]; omega)
  · intro h
    have h1 := of_decide_eq_true h
    obtain ⟨e1, e2⟩ := part_ok (a := a) (u := u) (d := d) (m := m) (by omega) hd (by rw [divQ_part]; omega)
    exact ⟨e1, by rw [e2, divQ_part, divV, if_pos h1]⟩

/-- Words, one behind the other, as numbers. -/
theorem nums_of (n : Nat) {cs : List Value} (hlen : cs.length = n) (h : ∀ i, i < n → ∃ m : Nat, cs[i]? = some (.int .u64 (m : Int)) ∧ m < 2 ^ 64) : ∃ f : Nat → Nat, (∀ i, f i < 2 ^ 64) ∧ cs = (List.range n).map fun i => Value.int .u64 ((f i : Nat) : Int) := by
  have hc : ∀ i, ∃ m : Nat, m < 2 ^ 64 ∧ (i < n → cs[i]? = some (.int .u64 (m : Int))) := by
    intro i
    by_cases hi : i < n
    · obtain ⟨m, h1, h2⟩ := h i hi
      exact ⟨m, h2, fun _ => h1⟩
    · exact ⟨0, by decide, fun hh => absurd hh hi⟩
  refine ⟨fun i => Classical.choose (hc i), fun i => (Classical.choose_spec (hc i)).1, List.ext_getElem? fun i => ?_⟩
  by_cases hi : i < n
  · rw [(Classical.choose_spec (hc i)).2 hi]
    simp [hi]
  · rw [List.getElem?_eq_none (by omega), List.getElem?_eq_none (by simp; omega)]

/-! ### a row made of noughts -/
section
variable {P : Program} {w0 w : World} {S : List Nat} {L : List Ent}
def u64Of (P : Program) (t : TypeId) : Option Nat :=
  match P.underlying t with
  | some (.slice e) => match P.info? e with
    | some i => match i.zero with
      | some (.int .u64 n) => if n = 0 ∧ i.size = 1 ∧ i.bytes = 8 then some e else none
      | _ => none
    | none => none
  | _ => none
theorem u64Of_spec {t e : Nat} (h : u64Of P t = some e) : ∃ i, P.underlying t = some (.slice e) ∧ P.info? e = some i ∧ i.zero = some (.int .u64 0) ∧ i.size = 1 ∧ i.bytes = 8 := by
  unfold u64Of at h
  split at h
  · rename_i e' he
    split at h
    · rename_i i hi
      split at h
      · rename_i n hn
        split at h
        · rename_i hc
          injection h with h
          subst h
          exact ⟨i, he, hi, by rw [hn, hc.1], hc.2.1, hc.2.2⟩
        · cases h
      · cases h
    · cases h
  · cases h
theorem made_zeros (n : Nat) : (madeCells (Value.int .u64 0).cells (n * 1)).toList = dg (List.replicate n 0) := by
  refine List.ext_getElem? (fun i => ?_)
  by_cases h : i < n
  · simp [madeCells, dg, h, Value.cells, Nat.mod_one]
  · simp [madeCells, dg, h, Value.cells]
theorem Hp.makeD (H : Hp w0 S L w) {t e n : Nat} {kl kc : IntKind} (ht : u64Of P t = some e) (hn : n ≤ 1099511627776) :
    ∃ b w', (Instr.makeSlice t (.int kl (n : Int)) (.int kc (n : Int))).run P w = .ok (.slice (some ⟨b, 0, none⟩) n n) w' ∧ Hp w0 S (L ++ [.row (some ⟨b, 0, none⟩) n n e 1 (dg (List.replicate n 0))]) w' := by
  obtain ⟨i, hu, hi, hz, hs, hb⟩ := u64Of_spec ht
  have hr := run_make (P := P) w t e i _ hu hi hz kl kc (n : Int) (n : Int) (by omega) (Int.le_refl _) (by rw [hb]; omega) (by omega)
  refine ⟨w.heap.size, _, hr, ?_⟩
  have H1 := H.new (dg (List.replicate n 0)) e
  have e1 : w.alloc (.cells (madeCells (Value.int .u64 0).cells ((n : Int).toNat * i.size)) e) = w.alloc (.cells (dg (List.replicate n 0)).toArray e) := by
    rw [hs, Int.toNat_natCast, ← made_zeros, Array.toArray_toList]
  rw [e1]
  have H2 := Hp.blkRow (b := w.heap.size) H1 (heap_alloc_new w _) (n := n) (c := n) (sz := 1) (Nat.le_refl _) (by simp only [maxLen]; omega) (by rw [dg_length]; simp)
  rwa [List.take_of_length_le (by rw [dg_length]; simp)] at H2
end
end Go.Proofs.Ytgmggjnoegelgaa
