/- Bits of numbers moved either way; a slice copied into a row. Plain laws. -/
import Derived.Test.YtpfdpikblijddaaWe
import Derived.Test.YtpfdpikblijddaaNc
import Derived.Laws.CopyRow
namespace Go.Proofs.Ytpfdpikblijddaa
open Go.RowKit

/-! ### bits of a number, at any whole place -/
def bz (a : Nat) (k : Int) : Nat := if 0 ≤ k then a / 2 ^ k.toNat % 2 else 0
theorem bz_le (a : Nat) (k : Int) : bz a k ≤ 1 := by
  unfold bz
  split <;> omega
theorem bz_nat {a n : Nat} {k : Int} (h : k = (n : Int)) : bz a k = a / 2 ^ n % 2 := by
  subst h
  simp [bz]
theorem bz_out {a : Nat} {k : Int} (ha : a < K4) (h : k < 0 ∨ 256 ≤ k) : bz a k = 0 := by
  unfold bz
  split
  · rw [right_big ha (by omega)]
  · rfl
/-- Moved up by n bits; down, if n is below 0. -/
def shz (a : Nat) (n : Int) : Nat := if 0 ≤ n then a * 2 ^ n.toNat % K4 else a / 2 ^ (-n).toNat
theorem shz_lt {a : Nat} {n : Int} (ha : a < K4) : shz a n < K4 := by
  unfold shz
  split
  · exact Nat.mod_lt _ (by decide)
  · exact div_K4 ha
theorem bit_tb (x i : Nat) : x / 2 ^ i % 2 = (x.testBit i).toNat := by
  rw [Nat.testBit_eq_decide_div_mod_eq]
  rcases Nat.mod_two_eq_zero_or_one (x / 2 ^ i) with h | h <;> simp [h]
theorem K4_pow : K4 = 2 ^ 256 := by decide
theorem up_bit {a m i : Nat} (hi : i < 256) : a * 2 ^ m % K4 / 2 ^ i % 2 = if m ≤ i then a / 2 ^ (i - m) % 2 else 0 := by
  rw [bit_tb, K4_pow, Nat.testBit_mod_two_pow, Nat.testBit_mul_two_pow]
  by_cases h : m ≤ i
  · rw [if_pos h, bit_tb]
    simp [hi, h]
  · rw [if_neg h]
    simp [hi, h]
theorem down_bit (a m i : Nat) : a / 2 ^ m / 2 ^ i % 2 = a / 2 ^ (i + m) % 2 := by
  rw [Nat.div_div_eq_div_mul, ← Nat.pow_add, Nat.add_comm]
theorem shz_bit {a : Nat} {n : Int} {i : Nat} (hi : i < 256) : shz a n / 2 ^ i % 2 = bz a ((i : Int) - n) := by
  unfold shz
  split
  · rename_i h
    rw [up_bit hi]
    unfold bz
    by_cases hm : n.toNat ≤ i
    · rw [if_pos hm, if_pos (by omega), show ((i : Int) - n).toNat = i - n.toNat by omega]
    · rw [if_neg hm, if_neg (by omega)]
  · rename_i h
    rw [down_bit]
    unfold bz
    rw [if_pos (by omega), show ((i : Int) - n).toNat = i + (-n).toNat by omega]
theorem not_bit {a i : Nat} (ha : a < K4) (hi : i < 256) : (K4 - 1 - a) / 2 ^ i % 2 = 1 - a / 2 ^ i % 2 := by
  have e : K4 - 1 - a = K4 - (a + 1) := by omega
  have ha2 : a < 2 ^ 256 := by rw [← K4_pow]; exact ha
  rw [bit_tb, bit_tb, e, K4_pow, Nat.testBit_two_pow_sub_succ ha2]
  cases a.testBit i <;> simp [hi]
/-! ### bits in a list -/
theorem bval_bits {X : Nat} {f : Nat → Nat} (n : Nat) (hf : ∀ i, i < n → f i = X / 2 ^ i % 2) : bval ((List.range n).map f) = X % 2 ^ n := by
  induction n with
  | zero => simp [bval, Nat.mod_one]
  | succ n ih =>
    rw [List.range_succ, List.map_append, bval_append, ih (fun i hi => hf i (by omega)), Nat.pow_succ, Nat.mod_mul]
    simp only [List.map_cons, List.map_nil, bval, List.length_map, List.length_range]
    rw [hf n (by omega)]
    rcases Nat.mod_two_eq_zero_or_one (X / 2 ^ n) with h | h <;> rw [h] <;> simp
/-- The first i of 256 numbers, the others 0. -/
def pre (f : Nat → Nat) (i : Nat) : List Nat := (List.range 256).map fun j => if j < i then f j else 0
theorem pre_length (f : Nat → Nat) (i : Nat) : (pre f i).length = 256 := by simp [pre]
theorem map_range_at (n : Nat) (f : Nat → Nat) (j : Nat) : ((List.range n).map f)[j]? = if j < n then some (f j) else none := by
  by_cases h : j < n <;> simp [h]
theorem pre_at (f : Nat → Nat) (i j : Nat) : (pre f i)[j]? = if j < 256 then some (if j < i then f j else 0) else none := map_range_at 256 _ j
theorem pre_zero (f : Nat → Nat) : List.replicate 256 0 = pre f 0 := by
  refine List.ext_getElem? (fun j => ?_)
  rw [pre_at, List.getElem?_replicate, if_neg (Nat.not_lt_zero j)]
theorem pre_next {f : Nat → Nat} {i j : Nat} (h : j ≠ i) : (if j < i then f j else 0) = if j < i + 1 then f j else 0 := by
  by_cases h1 : j < i
  · rw [if_pos h1, if_pos (by omega)]
  · rw [if_neg h1, if_neg (by omega)]
theorem pre_set {f : Nat → Nat} {i d : Nat} (hd : f i = d) : (pre f i).set i d = pre f (i + 1) := by
  subst hd
  refine List.ext_getElem? (fun j => ?_)
  rw [List.getElem?_set, pre_at, pre_at, pre_length]
  by_cases hij : i = j
  · subst hij
    rw [if_pos rfl]
    by_cases hi : i < 256
    · rw [if_pos hi, if_pos hi, if_pos (Nat.lt_succ_self i)]
    · rw [if_neg hi, if_neg hi]
  · rw [if_neg hij, pre_next (fun h => hij h.symm)]
theorem pre_skip {f : Nat → Nat} {i : Nat} (hd : f i = 0) : pre f i = pre f (i + 1) := by
  refine List.ext_getElem? (fun j => ?_)
  rw [pre_at, pre_at]
  by_cases hij : j = i
  · subst hij
    rw [if_neg (Nat.lt_irrefl j), if_pos (Nat.lt_succ_self j), hd]
  · rw [pre_next hij]
theorem pre_all {X : Nat} {f : Nat → Nat} (hX : X < K4) (hf : ∀ i, i < 256 → f i = X / 2 ^ i % 2) : bval (pre f 256) = X := by
  have e : pre f 256 = (List.range 256).map f := by
    unfold pre
    refine List.map_congr_left (fun j hj => ?_)
    rw [if_pos (by simpa using hj)]
  rw [e, bval_bits 256 hf, ← K4_pow, Nat.mod_eq_of_lt hX]
/-- All 256 bits. -/
def bitsF (a : Nat) : List Nat := (List.range 256).map fun i => a / 2 ^ i % 2
theorem bitsF_length (a : Nat) : (bitsF a).length = 256 := by simp [bitsF]
theorem bitsF_get {a i : Nat} (h : i < 256) : (bitsF a)[i]? = some (a / 2 ^ i % 2) := by rw [bitsF, map_range_at, if_pos h]
theorem bits_pad {a : Nat} (h : bl a ≤ 256) : bitsL a ++ (List.replicate 256 0).drop (bl a) = bitsF a := by
  refine List.ext_getElem? (fun j => ?_)
  by_cases hj : j < bl a
  · rw [List.getElem?_append_left (by rw [bitsL_length]; exact hj), bitsL_get hj, bitsF_get (by omega)]
  · rw [List.getElem?_append_right (by rw [bitsL_length]; omega), bitsL_length, List.getElem?_drop]
    by_cases h2 : j < 256
    · have h0 : a / 2 ^ j = 0 := Nat.div_eq_of_lt (Nat.lt_of_lt_of_le (bl_lt a) (Nat.pow_le_pow_right (by decide) (by omega)))
      rw [bitsF_get h2, h0, show bl a + (j - bl a) = j by omega, List.getElem?_replicate, if_pos h2]
    · rw [List.getElem?_replicate, if_neg (by omega), bitsF, map_range_at, if_neg h2]
theorem byte_bit (a i k : Nat) (hk : k < 8) : bt a i / 2 ^ k % 2 = a / 2 ^ (8 * i + k) % 2 := by
  have e : (256 : Nat) = 2 ^ k * (2 * 2 ^ (7 - k)) := by
    rw [← Nat.pow_succ', ← Nat.pow_add, show k + (7 - k + 1) = 8 by omega]
  rw [bt]
  conv => lhs; rw [show a / 256 ^ i % 256 = a / 256 ^ i % (2 ^ k * (2 * 2 ^ (7 - k))) from by rw [← e]]
  rw [Nat.mod_mul_right_div_self, Nat.mod_mul_right_mod, Nat.div_div_eq_div_mul]
  congr 2
  rw [show (256 : Nat) = 2 ^ 8 from rfl, ← Nat.pow_mul, ← Nat.pow_add]
/-! ### the three lists of the statement -/
def upF (a : Nat) (n : Int) (j : Nat) : Nat := bz a ((j : Int) - n)
def dnF (a : Nat) (n : Int) (j : Nat) : Nat := bz a ((j : Int) + n)
def ovF (a : Nat) (j : Nat) : Nat := 1 - a / 2 ^ j % 2
theorem up_all {a : Nat} {n : Int} (ha : a < K4) : bval (pre (upF a n) 256) = shz a n := pre_all (shz_lt ha) fun _ hi => (shz_bit hi).symm
theorem dn_all {a : Nat} {n : Int} (ha : a < K4) : bval (pre (dnF a n) 256) = shz a (-n) := pre_all (shz_lt ha) fun i hi => by rw [shz_bit hi, Int.sub_neg, dnF]
theorem ov_all {a : Nat} (ha : a < K4) : bval (pre (ovF a) 256) = K4 - 1 - a := pre_all (by simp only [K4] at *; omega) fun _ hi => (not_bit ha hi).symm
theorem bl_one {a : Nat} : a < K ↔ bl a ≤ 64 := ⟨fun h => bl_le (k := 64) (by rw [show (2 : Nat) ^ 64 = K from rfl]; exact h), fun h => Nat.lt_of_lt_of_le (bl_lt a) (Nat.le_trans (Nat.pow_le_pow_right (by decide) h) (Nat.le_of_eq (by decide)))⟩
theorem n_and1b {a : Nat} (ha : a < 256) : Go.bits .and .u8 (a : Int) 1 = ((a % 2 : Nat) : Int) := by
  have h : ∀ x : Fin 256, Go.bits .and .u8 ((x.val : Nat) : Int) 1 = ((x.val % 2 : Nat) : Int) := by decide +kernel
  exact h ⟨a, ha⟩
/-! ### operations -/
section
variable {P : Program} {w0 w : World} {S : List Nat} {L : List Ent}
/-- copy(dst, src): whole numbers of a row into a longer row's head. -/
theorem Hp.copyD (H : Hp w0 S L w) (i j : Nat) {A B : Option Addr} {n c m d t t2 ty e e2 : Nat} {xs ys : List Nat} (hL : L[i]? = some (.row A n c e 1 (dg xs))) (hL2 : L[j]? = some (.row B m d e2 1 (dg ys))) (ht : u64Of P t = some e) (hm : ys.length = m) (hmn : m ≤ n) (hn : 0 < n) :
    ∃ w', (Builtin.copy_ #[t, t2] ty #[.slice A n c, .slice B m d]).run P w = .ok (goInt m) w' ∧ Hp w0 S (L.set i (.row A n c e 1 (dg (ys ++ xs.drop m)))) w' := by
  obtain ⟨inf, hu, hi, hz, hs, hby⟩ := u64Of_spec ht
  have hsz : (P.info? e).map (·.size) = some 1 := by rw [hi, Option.map_some, hs]
  have h := H.rowAt i hL
  have h2 := H.rowAt j hL2
  have hr := H.rdRow j hL2
  rcases h.2 with ⟨h0, hn0⟩ | ⟨g, cap, cur, hv, hbase, hh, hnc, hmx, hcs, hx⟩
  · omega
  · injection hv with hA _ hc
    subst hA
    subst hc
    have hcl : (dg ys).length = m := by rw [dg_length]; exact hm
    have hxl : (dg xs).length = n := by have := h.1; omega
    have hcur : cur.toList = dg xs ++ cur.toList.drop n := by
      conv => lhs; rw [← List.take_append_drop n cur.toList]
      rw [Nat.mul_one] at hx
      rw [hx]
    have hfit : 0 + (dg ys).length ≤ cur.size := by omega
    have hnew : cur.toList.take 0 ++ dg ys ++ cur.toList.drop (0 + (dg ys).length) = dg (ys ++ xs.drop m) ++ cur.toList.drop n := by
      rw [List.take_zero, List.nil_append, Nat.zero_add, hcl, dg_append, List.append_assoc]
      congr 1
      conv => lhs; rw [hcur]
      rw [List.drop_append_of_le_length (by omega)]
      congr 1
      simp [dg, List.map_drop]
    have hrow : ∀ w' : World, w'.heap[g]? = some (.cells (dg (ys ++ xs.drop m) ++ cur.toList.drop n).toArray e (0, 0)) → w'.ownsRow 0 e 1 (.slice (some ⟨g, 0, none⟩) n c) n (dg (ys ++ xs.drop m)) := by
      intro w' hw'
      have hl : (dg (ys ++ xs.drop m)).length = n := by rw [dg_length] at hxl; rw [dg_length, List.length_append, List.length_drop]; omega
      refine ⟨by omega, .inr ⟨g, c, _, rfl, hbase, hw', hnc, hmx, ?_, ?_⟩⟩
      · have : cur.toList.length = c * 1 := by simpa using hcs
        simp only [List.size_toArray, List.length_append, hl, List.length_drop, this]
        omega
      · simp only [Nat.mul_one]
        rw [List.take_append_of_le_length (by omega), List.take_of_length_le (by omega)]
    cases B with
    | none =>
      have h3 : m = 0 ∧ d = 0 := by
        rcases h2.2 with ⟨h0, hn0⟩ | ⟨g2, cap2, cur2, hv2, _⟩
        · injection h0 with _ _ hd
          exact ⟨hn0, hd⟩
        · injection hv2 with hA
          simp at hA
      obtain ⟨rfl, rfl⟩ := h3
      have hy : ys = [] := List.eq_nil_of_length_eq_zero hm
      subst hy
      refine ⟨w, run_copy_nil (P := P) w t t2 ty e ⟨g, 0, none⟩ n c hu (by simp [hi]), ?_⟩
      have : L.set i (.row (some ⟨g, 0, none⟩) n c e 1 (dg ([] ++ xs.drop 0))) = L := by
        have hLi : i < L.length := (List.getElem?_eq_some_iff.1 hL).1
        refine List.ext_getElem? (fun k => ?_)
        by_cases hk : i = k
        · subst hk
          rw [List.getElem?_set_self hLi, hL]
          simp
        · rw [List.getElem?_set_ne hk]
      rw [this]
      exact H
    | some a =>
      have hsrc : ∀ j v, (dg ys)[j]? = some v → w.cell? (a.add j) = some v := by
        intro j v hv
        obtain ⟨a', ha', hc'⟩ := hr.cell hv
        injection ha' with ha'
        subst ha'
        exact hc'
      have hrun := run_copy_row (P := P) w t t2 ty e g 0 n c a m d cur e (dg ys) hu hsz hh (by rw [hcl]; exact (Nat.min_eq_left hmn).symm) hsrc hfit (dg_one ys)
      rw [hnew, hcl] at hrun
      refine ⟨_, hrun, H.turn i hL rfl (hrow _ (setRow_heap w g cur _ e (0, 0) hh)) rfl rfl rfl (by simp) (fun k _ hk => setRow_other w g k _ (by simpa [Ent.ids] using hk))⟩
/-- A byte, moved down. -/
theorem run_shr8 {t a r : Nat} {k' : IntKind} (hr : r ≤ 8) (w : World) : (binOp .shr t (.int .u8 (a : Int)) (.int k' (r : Int))).run P w = .ok (.int .u8 ((a / 2 ^ r : Nat) : Int)) w := by
  rw [run_shr rfl (by omega), show min ((r : Int)).toNat IntKind.u8.bits = r from by simp only [IntKind.bits]; omega, n_shr]
end
end Go.Proofs.Ytpfdpikblijddaa
