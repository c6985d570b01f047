/- Bits of a target and back: in plain numbers. -/
import Derived.Test.YtjfllmkihfidcaaTarget
namespace Go.Proofs.Ytjfllmkihfidcaa
open Go.RowKit
/-- The bytes of a target; its first three; the count that is told; the bits. -/
def encE (t : Nat) : Nat := (bl t + 7) / 8
def encM (t e : Nat) : Nat := if 3 ≤ e then t / 2 ^ (8 * (e - 3)) else t * 2 ^ (8 * (3 - e))
def encX (t : Nat) : Nat := if 8388608 ≤ encM t (encE t) then encE t + 1 else encE t
def encV (t : Nat) : Nat := encM t (encX t) + encX t * 16777216
theorem encM_next (t e : Nat) : encM t (e + 1) = encM t e / 256 := by
  unfold encM
  by_cases h : 3 ≤ e
  · rw [if_pos h, if_pos (by omega), show 8 * (e + 1 - 3) = 8 * (e - 3) + 8 by omega, Nat.pow_add, Nat.div_div_eq_div_mul]
  · rw [if_neg h]
    by_cases h2 : 3 ≤ e + 1
    · rw [if_pos h2, show 8 * (e + 1 - 3) = 0 by omega, show 8 * (3 - e) = 8 by omega, Nat.pow_zero, Nat.div_one, show (256 : Nat) = 2 ^ 8 from rfl, Nat.mul_div_cancel _ (by decide)]
    · rw [if_neg h2, show 8 * (3 - e) = 8 * (3 - (e + 1)) + 8 by omega, Nat.pow_add, ← Nat.mul_assoc, show (256 : Nat) = 2 ^ 8 from rfl, Nat.mul_div_cancel _ (by decide)]
theorem encM_lt (t : Nat) : encM t (encE t) < 16777216 := by
  have h1 : t < 2 ^ (8 * encE t) := Nat.lt_of_lt_of_le (bl_lt t) (Nat.pow_le_pow_right (by decide) (by unfold encE; omega))
  unfold encM
  split
  · rename_i h
    rw [Nat.div_lt_iff_lt_mul (Nat.two_pow_pos _), show (16777216 : Nat) = 2 ^ 24 from rfl, ← Nat.pow_add, show 24 + 8 * (encE t - 3) = 8 * encE t by omega]
    exact h1
  · rename_i h
    have h2 := Nat.mul_lt_mul_of_pos_right h1 (Nat.two_pow_pos (8 * (3 - encE t)))
    rwa [← Nat.pow_add, show 8 * encE t + 8 * (3 - encE t) = 24 by omega] at h2
theorem encX_lt (t : Nat) : encM t (encX t) < 8388608 := by
  have h := encM_lt t
  unfold encX
  split
  · rw [encM_next]
    omega
  · omega
theorem encX_le {t : Nat} (ht : t < K4) : encX t ≤ 33 := by
  have h : bl t ≤ 256 := bl_le (by rw [show 2 ^ 256 = K4 by decide]; exact ht)
  unfold encX encE
  split <;> omega
theorem encV_eq {t : Nat} : encV t = if 8388608 ≤ encM t (encE t) then encM t (encE t) / 256 + (encE t + 1) * 16777216 else encM t (encE t) + encE t * 16777216 := by
  unfold encV encX
  split
  · rw [encM_next]
  · rfl
theorem enc_parts {t : Nat} : encV t / 16777216 = encX t ∧ encV t % 8388608 = encM t (encX t) ∧ encV t / 8388608 % 2 = 0 := by
  have h := encX_lt t
  unfold encV
  omega
theorem encV_lt {t : Nat} (ht : t < K4) : encV t < 4294967296 := by
  have h := encX_lt t
  have h2 := encX_le ht
  unfold encV
  omega
theorem bl_fits {m k n : Nat} (h0 : m ≠ 0) (h : m * 2 ^ k < 2 ^ n) : bl m + k ≤ n := by
  have h1 : 2 ^ k ≤ m * 2 ^ k := Nat.le_mul_of_pos_left _ (by omega)
  have hk : k < n := (Nat.pow_lt_pow_iff_right (by decide : 1 < 2)).1 (Nat.lt_of_le_of_lt h1 h)
  have h2 : m < 2 ^ (n - k) := by
    refine Nat.lt_of_mul_lt_mul_right (a := 2 ^ k) ?_
    rwa [← Nat.pow_add, show n - k + k = n by omega]
  have := bl_le h2
  omega
theorem bl_over {m k n : Nat} (h : 2 ^ n ≤ m * 2 ^ k) : n < bl m + k := by
  refine (Nat.pow_lt_pow_iff_right (by decide : 1 < 2)).1 (Nat.lt_of_le_of_lt h ?_)
  rw [Nat.pow_add]
  exact Nat.mul_lt_mul_of_pos_right (bl_lt m) (Nat.two_pow_pos k)
/-- What the bits tell of a target again. -/
def backV (t : Nat) : Nat := if 3 ≤ encX t then t / 2 ^ (8 * (encX t - 3)) * 2 ^ (8 * (encX t - 3)) else t
theorem backV_le (t : Nat) : backV t ≤ t := by
  unfold backV
  split
  · exact Nat.div_mul_le_self _ _
  · exact Nat.le_refl _
theorem bl_low {t : Nat} (h : t ≠ 0) : 1 ≤ bl t ∧ 2 ^ (bl t - 1) ≤ t := by
  obtain ⟨m, h1, h2, _⟩ := bl_spec h
  rw [h1]
  exact ⟨by omega, h2⟩
theorem encX_room {t : Nat} (h : t ≠ 0) : 8 * (encX t - 3) ≤ bl t - 1 := by
  have := (bl_low h).1
  unfold encX encE
  split <;> omega
theorem back_low {t : Nat} (h : t ≠ 0) (h3 : 3 ≤ encX t) : 2 ^ (bl t - 1 - 8 * (encX t - 3)) ≤ t / 2 ^ (8 * (encX t - 3)) := by
  have hr := encX_room h
  rw [Nat.le_div_iff_mul_le (Nat.two_pow_pos _), ← Nat.pow_add, Nat.sub_add_cancel hr]
  exact (bl_low h).2
theorem back_bl {t : Nat} (h : t ≠ 0) : bl (backV t) = bl t := by
  have hle : bl (backV t) ≤ bl t := bl_le (Nat.lt_of_le_of_lt (backV_le t) (bl_lt t))
  refine Nat.le_antisymm hle ?_
  have h2 : 2 ^ (bl t - 1) ≤ backV t := by
    unfold backV
    split
    · rename_i h3
      have hr := encX_room h
      have := Nat.mul_le_mul_right (2 ^ (8 * (encX t - 3))) (back_low h h3)
      rwa [← Nat.pow_add, Nat.sub_add_cancel hr] at this
    · exact (bl_low h).2
  have h4 := bl_lt (backV t)
  have := (Nat.pow_lt_pow_iff_right (by decide : 1 < 2)).1 (Nat.lt_of_le_of_lt h2 h4)
  omega
theorem decT_enc {t : Nat} (ht : t < K4) : decT (encV t) = backV t := by
  have h1 := (enc_parts (t := t)).1
  have h2 := (enc_parts (t := t)).2.1
  unfold decT
  rw [h1, h2]
  unfold backV
  by_cases h3 : 3 ≤ encX t
  · rw [if_pos h3, if_pos h3]
    rw [show encM t (encX t) = t / 2 ^ (8 * (encX t - 3)) from if_pos h3]
    exact Nat.mod_eq_of_lt (Nat.lt_of_le_of_lt (Nat.div_mul_le_self _ _) ht)
  · rw [if_neg h3, if_neg h3]
    rw [show encM t (encX t) = t * 2 ^ (8 * (3 - encX t)) from if_neg h3]
    exact Nat.mul_div_cancel _ (Nat.two_pow_pos _)
theorem back_ne {t : Nat} (h : t ≠ 0) : backV t ≠ 0 := by
  unfold backV
  split
  · rename_i h3
    have := back_low h h3
    have h5 := Nat.two_pow_pos (bl t - 1 - 8 * (encX t - 3))
    exact Nat.ne_of_gt (Nat.mul_pos (by omega) (Nat.two_pow_pos _))
  · exact h
theorem decE_enc {t : Nat} (ht : t < K4) (h0 : t ≠ 0) : decE (encV t) = 0 := by
  obtain ⟨h1, h2, h3⟩ := enc_parts (t := t)
  unfold decE
  rw [if_neg (by omega), if_neg, if_neg]
  · rw [decT_enc ht]
    exact back_ne h0
  · rw [h1, h2]
    rintro ⟨h4, h5⟩
    rw [show encM t (encX t) = t / 2 ^ (8 * (encX t - 3)) from if_pos (by omega)] at h5
    have h6 := back_low h0 (by omega)
    have h7 := Nat.two_pow_pos (bl t - 1 - 8 * (encX t - 3))
    have h8 := bl_fits (n := 256) (m := t / 2 ^ (8 * (encX t - 3))) (k := 8 * (encX t - 3)) (by omega) (Nat.lt_of_le_of_lt (Nat.div_mul_le_self _ _) (by rw [show 2 ^ 256 = K4 by decide]; exact ht))
    omega
theorem decR_enc {t : Nat} (ht : t < K4) (h0 : t ≠ 0) : decR (encV t) = backV t := by
  unfold decR
  rw [if_pos (decE_enc ht h0), decT_enc ht]
theorem encV_zero : encV 0 = 0 := by decide
theorem encV_back {t : Nat} : encV (backV t) = encV t := by
  by_cases h0 : t = 0
  · subst h0
    decide
  · have hb := back_bl h0
    have he : encE (backV t) = encE t := by
      unfold encE
      rw [hb]
    by_cases h3 : 3 ≤ encX t
    · by_cases hs : 8388608 ≤ encM t (encE t)
      · have hX : encX t = encE t + 1 := if_pos hs
        have hB : backV t = t / 2 ^ (8 * (encX t - 3)) * 2 ^ (8 * (encX t - 3)) := if_pos h3
        by_cases h4 : 3 ≤ encE t
        · have hp : (2 : Nat) ^ (8 * (encX t - 3)) = 2 ^ (8 * (encE t - 3)) * 256 := by
            rw [hX, show 8 * (encE t + 1 - 3) = 8 * (encE t - 3) + 8 by omega, Nat.pow_add]
          have hm : encM (backV t) (encE t) = encM t (encE t) / 256 * 256 := by
            rw [show encM (backV t) (encE t) = backV t / 2 ^ (8 * (encE t - 3)) from if_pos h4, show encM t (encE t) = t / 2 ^ (8 * (encE t - 3)) from if_pos h4, hB, hp, ← Nat.div_div_eq_div_mul, Nat.mul_comm (2 ^ (8 * (encE t - 3))) 256, ← Nat.mul_assoc, Nat.mul_div_cancel _ (Nat.two_pow_pos _)]
          have hX2 : encX (backV t) = encX t := by
            unfold encX
            rw [he, if_pos hs, if_pos (by omega)]
          unfold encV
          rw [hX2, hX, encM_next, encM_next, hm]
          omega
        · have : backV t = t := by rw [hB, show 8 * (encX t - 3) = 0 by omega, Nat.pow_zero, Nat.div_one, Nat.mul_one]
          rw [this]
      · have hX : encX t = encE t := if_neg hs
        have hm : encM (backV t) (encE t) = encM t (encE t) := by
          rw [show encM (backV t) (encE t) = backV t / 2 ^ (8 * (encE t - 3)) from if_pos (by omega), show encM t (encE t) = t / 2 ^ (8 * (encE t - 3)) from if_pos (by omega), show backV t = t / 2 ^ (8 * (encX t - 3)) * 2 ^ (8 * (encX t - 3)) from if_pos h3, hX, Nat.mul_div_cancel _ (Nat.two_pow_pos _)]
        have hX2 : encX (backV t) = encX t := by
          unfold encX
          rw [he, hm]
        unfold encV
        rw [hX2, hX, hm]
    · rw [show backV t = t from if_neg h3]
/-- What the bits tell is told again. -/
theorem back_dec {b : Nat} (h : decE b = 0) : backV (decR b) = decR b ∧ decR b ≠ 0 := by
  have hR : decR b = decT b := if_pos h
  have hn : decT b ≠ 0 := by
    intro h0
    unfold decE at h
    split at h
    · omega
    · split at h <;> omega
  refine ⟨?_, by rw [hR]; exact hn⟩
  rw [hR]
  have hM : b % 8388608 < 8388608 := Nat.mod_lt _ (by decide)
  by_cases h3 : 3 ≤ b / 16777216
  · have hT0 : decT b = b % 8388608 * 2 ^ (8 * (b / 16777216 - 3)) % K4 := if_pos h3
    have hfit : b % 8388608 * 2 ^ (8 * (b / 16777216 - 3)) < K4 := by
      by_cases h4 : 3 < b / 16777216
      · refine Nat.lt_of_not_le fun h5 => ?_
        have h6 := bl_over (n := 256) (m := b % 8388608) (k := 8 * (b / 16777216 - 3)) (by rw [show 2 ^ 256 = K4 by decide]; exact h5)
        unfold decE at h
        split at h
        · omega
        · rw [if_pos ⟨h4, h6⟩] at h
          omega
      · rw [show 8 * (b / 16777216 - 3) = 0 by omega, Nat.pow_zero, Nat.mul_one]
        exact Nat.lt_trans hM (by decide)
    rw [Nat.mod_eq_of_lt hfit] at hT0
    generalize b / 16777216 - 3 = j at *
    generalize b % 8388608 = M at *
    have hle : encX (decT b) ≤ j + 3 := by
      have hbl : bl (decT b) ≤ 23 + 8 * j := bl_le (by rw [hT0, Nat.pow_add]; exact Nat.mul_lt_mul_of_pos_right hM (Nat.two_pow_pos _))
      by_cases he : encE (decT b) = j + 3
      · have hm : encM (decT b) (encE (decT b)) = M := by
          rw [he, show encM (decT b) (j + 3) = decT b / 2 ^ (8 * (j + 3 - 3)) from if_pos (by omega), hT0, show j + 3 - 3 = j by omega, Nat.mul_div_cancel _ (Nat.two_pow_pos _)]
        unfold encX
        rw [if_neg (by omega)]
        omega
      · have : encE (decT b) ≤ j + 3 := by unfold encE; omega
        unfold encX
        split <;> omega
    unfold backV
    split
    · rename_i h5
      refine Nat.div_mul_cancel ?_
      rw [hT0] at hle ⊢
      exact Nat.dvd_trans (Nat.pow_dvd_pow 2 (by omega)) (Nat.dvd_mul_left _ _)
    · rfl
  · have hT : decT b < 8388608 := by
      unfold decT
      rw [if_neg h3]
      exact Nat.lt_of_le_of_lt (Nat.div_le_self _ _) hM
    have hbl : bl (decT b) ≤ 23 := bl_le hT
    have hle : encX (decT b) ≤ 3 := by
      by_cases he : encE (decT b) = 3
      · have hm : encM (decT b) (encE (decT b)) = decT b := by
          rw [he, show encM (decT b) 3 = decT b / 2 ^ (8 * (3 - 3)) from if_pos (by omega), Nat.sub_self, Nat.mul_zero, Nat.pow_zero, Nat.div_one]
        unfold encX
        rw [if_neg (by omega)]
        omega
      · have : encE (decT b) ≤ 3 := by unfold encE; omega
        unfold encX
        split <;> omega
    unfold backV
    split
    · rw [show 8 * (encX (decT b) - 3) = 0 by omega, Nat.pow_zero, Nat.div_one, Nat.mul_one]
    · rfl
/-- The document's target of bits, without a bound; may it be? -/
def refT (b : Nat) : Nat := if 3 ≤ b / 16777216 then b % 8388608 * 256 ^ (b / 16777216 - 3) else b % 8388608 / 256 ^ (3 - b / 16777216)
def refOK (b : Nat) : Bool := (!(decide (b / 8388608 % 2 = 1) && decide (0 < b % 8388608))) && decide (0 < refT b) && decide (refT b < K4)
theorem pow256 (k : Nat) : 256 ^ k = 2 ^ (8 * k) := by rw [Nat.pow_mul]
theorem refT_dec {b : Nat} (h : refT b < K4) : decT b = refT b := by
  unfold refT at h
  unfold decT refT
  rw [pow256, pow256] at *
  split
  · rename_i h3
    rw [if_pos h3] at h
    exact Nat.mod_eq_of_lt h
  · rfl
theorem refOK_iff (b : Nat) : refOK b = decide (decE b = 0) ∧ (decE b = 0 ∨ decE b = 6) := by
  unfold refOK
  by_cases h1 : b / 8388608 % 2 = 1 ∧ b % 8388608 ≠ 0
  · have h2 : decE b = 6 := if_pos h1
    rw [h2, decide_eq_true h1.1, decide_eq_true (show 0 < b % 8388608 by omega)]
    exact ⟨rfl, .inr rfl⟩
  · have h2 : (!(decide (b / 8388608 % 2 = 1) && decide (0 < b % 8388608))) = true := by
      rw [Bool.not_eq_true', Bool.and_eq_false_iff]
      by_cases h3 : b / 8388608 % 2 = 1
      · exact .inr (decide_eq_false (by omega))
      · exact .inl (decide_eq_false h3)
    rw [h2, Bool.true_and]
    by_cases h4 : refT b < K4
    · have h5 := refT_dec h4
      have h6 : ¬ (3 < b / 16777216 ∧ 256 < bl (b % 8388608) + 8 * (b / 16777216 - 3)) ∨ refT b = 0 := by
        by_cases h7 : b % 8388608 = 0
        · right
          unfold refT
          rw [h7]
          split
          · rw [Nat.zero_mul]
          · rw [Nat.zero_div]
        · left
          rintro ⟨h8, h9⟩
          rw [show refT b = b % 8388608 * 256 ^ (b / 16777216 - 3) from if_pos (by omega), pow256] at h4
          have := bl_fits (n := 256) (k := 8 * (b / 16777216 - 3)) h7 (by rw [show 2 ^ 256 = K4 by decide]; exact h4)
          omega
      rw [decide_eq_true h4, Bool.and_true]
      by_cases h0 : refT b = 0
      · have : decE b = 6 := by
          unfold decE
          rw [if_neg h1]
          split
          · rfl
          · rw [if_pos (by rw [h5]; exact h0)]
        rw [this, h0]
        exact ⟨rfl, .inr rfl⟩
      · have : decE b = 0 := by
          unfold decE
          rw [if_neg h1, if_neg (h6.resolve_right h0), if_neg (by rw [h5]; exact h0)]
        rw [this, decide_eq_true (show 0 < refT b by omega)]
        exact ⟨rfl, .inl rfl⟩
    · have : decE b = 6 := by
        unfold decE
        rw [if_neg h1]
        by_cases h3 : 3 < b / 16777216
        · rw [if_pos]
          refine ⟨h3, bl_over ?_⟩
          rw [show refT b = b % 8388608 * 256 ^ (b / 16777216 - 3) from if_pos (by omega), pow256] at h4
          rw [show 2 ^ 256 = K4 by decide]
          omega
        · exfalso
          apply h4
          have hM : b % 8388608 < 8388608 := Nat.mod_lt _ (by decide)
          unfold refT
          split
          · rw [show b / 16777216 - 3 = 0 by omega, Nat.pow_zero, Nat.mul_one]
            exact Nat.lt_trans hM (by decide)
          · exact Nat.lt_of_le_of_lt (Nat.div_le_self _ _) (Nat.lt_trans hM (by decide))
      rw [this, decide_eq_false h4, Bool.and_false]
      exact ⟨rfl, .inr rfl⟩
theorem refR_dec {b : Nat} (h : decE b = 0) : decR b = refT b := by
  have h1 := (refOK_iff b).1
  rw [h, decide_eq_true rfl] at h1
  unfold refOK at h1
  rw [Bool.and_eq_true, Bool.and_eq_true, decide_eq_true_eq, decide_eq_true_eq] at h1
  rw [show decR b = decT b from if_pos h, refT_dec h1.2]
end Go.Proofs.Ytjfllmkihfidcaa
