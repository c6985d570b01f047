/- Counts as bytes; what is read of them; slices that stay while a callee's own blocks turn; items. Plain laws. -/
import Derived.Test.YtgmggjnoegelgaaOa
import Derived.Test.YtgmggjnoegelgaaNd
namespace Go.Proofs.Ytgmggjnoegelgaa
open Go.RowKit

/-! ### counts, written -/
def cntSz (x : Nat) : Nat := if x < 253 then 1 else if x < 65536 then 3 else if x < 4294967296 then 5 else 9
def cnt (x : Nat) : List UInt8 := if x < 253 then putB x 1 else if x < 65536 then putB 253 1 ++ putB x 2 else if x < 4294967296 then putB 254 1 ++ putB x 4 else putB 255 1 ++ putB x 8
theorem cnt_cases (x : Nat) : (x < 253 ∧ cntSz x = 1 ∧ cnt x = putB x 1) ∨ (253 ≤ x ∧ x < 65536 ∧ cntSz x = 3 ∧ cnt x = putB 253 1 ++ putB x 2) ∨ (65536 ≤ x ∧ x < 4294967296 ∧ cntSz x = 5 ∧ cnt x = putB 254 1 ++ putB x 4) ∨ (4294967296 ≤ x ∧ cntSz x = 9 ∧ cnt x = putB 255 1 ++ putB x 8) := by
  unfold cntSz cnt
  by_cases h1 : x < 253
  · rw [if_pos h1, if_pos h1]
    exact .inl ⟨h1, rfl, rfl⟩
  · rw [if_neg h1, if_neg h1]
    by_cases h2 : x < 65536
    · rw [if_pos h2, if_pos h2]
      exact .inr (.inl ⟨by omega, h2, rfl, rfl⟩)
    · rw [if_neg h2, if_neg h2]
      by_cases h3 : x < 4294967296
      · rw [if_pos h3, if_pos h3]
        exact .inr (.inr (.inl ⟨by omega, h3, rfl, rfl⟩))
      · rw [if_neg h3, if_neg h3]
        exact .inr (.inr (.inr ⟨by omega, rfl, rfl⟩))
theorem cnt_length (x : Nat) : (cnt x).length = cntSz x := by
  rcases cnt_cases x with ⟨_, h, e⟩ | ⟨_, _, h, e⟩ | ⟨_, _, h, e⟩ | ⟨_, h, e⟩ <;> rw [e, h] <;> simp [putB_length]
theorem cntSz_le (x : Nat) : 1 ≤ cntSz x ∧ cntSz x ≤ 9 := by
  rcases cnt_cases x with ⟨_, h, _⟩ | ⟨_, _, h, _⟩ | ⟨_, _, h, _⟩ | ⟨_, h, _⟩ <;> omega
/-! ### counts, read: with which bytes begin, by the reader's own steps -/
def ctN (wr : Bool) (rest : List UInt8) : Nat := if getB (rV wr rest 1) = 253 then 2 else if getB (rV wr rest 1) = 254 then 4 else if getB (rV wr rest 1) = 255 then 8 else 0
def ctX (wr : Bool) (rest : List UInt8) : Nat := if ctN wr rest = 0 then getB (rV wr rest 1) else getB (rV (!(rOK wr rest 1)) (rR wr rest 1) (ctN wr rest))
def ctW (wr : Bool) (rest : List UInt8) : Bool := if ctN wr rest = 0 then !(rOK wr rest 1) else !(rOK (!(rOK wr rest 1)) (rR wr rest 1) (ctN wr rest))
def ctT (wr : Bool) (rest : List UInt8) : List UInt8 := if ctN wr rest = 0 then rR wr rest 1 else rR (!(rOK wr rest 1)) (rR wr rest 1) (ctN wr rest)
def ctOK (wr : Bool) (rest : List UInt8) (most : Nat) : Bool := !(ctW wr rest) && (decide (cntSz (ctX wr rest) = ctN wr rest + 1) && decide (ctX wr rest ≤ most))
def ctV (wr : Bool) (rest : List UInt8) (most : Nat) : Nat := if ctOK wr rest most then ctX wr rest else 0
def ctR (wr : Bool) (rest : List UInt8) (most : Nat) : List UInt8 := if ctOK wr rest most then ctT wr rest else []
theorem ct_short {wr : Bool} {rest : List UInt8} (h : ctN wr rest = 0) : ctX wr rest = getB (rV wr rest 1) ∧ ctW wr rest = !(rOK wr rest 1) ∧ ctT wr rest = rR wr rest 1 := ⟨if_pos h, if_pos h, if_pos h⟩
theorem ct_long {wr : Bool} {rest : List UInt8} {n : Nat} (h : ctN wr rest = n) (hn : n ≠ 0) : ctX wr rest = getB (rV (!(rOK wr rest 1)) (rR wr rest 1) n) ∧ ctW wr rest = !(rOK (!(rOK wr rest 1)) (rR wr rest 1) n) ∧ ctT wr rest = rR (!(rOK wr rest 1)) (rR wr rest 1) n := by
  subst h
  exact ⟨if_neg hn, if_neg hn, if_neg hn⟩
theorem ct_ok {wr : Bool} {rest : List UInt8} {most : Nat} (h1 : ctW wr rest = false) (h2 : cntSz (ctX wr rest) = ctN wr rest + 1) (h3 : ctX wr rest ≤ most) : ctOK wr rest most = true ∧ ctV wr rest most = ctX wr rest ∧ ctR wr rest most = ctT wr rest := by
  have e : ctOK wr rest most = true := by rw [ctOK, h1, decide_eq_true h2, decide_eq_true h3]; rfl
  exact ⟨e, by rw [ctV, e]; rfl, by rw [ctR, e]; rfl⟩
theorem ct_bad {wr : Bool} {rest : List UInt8} {most : Nat} (h : ctW wr rest = true ∨ cntSz (ctX wr rest) ≠ ctN wr rest + 1 ∨ ¬ ctX wr rest ≤ most) : ctOK wr rest most = false ∧ ctV wr rest most = 0 ∧ ctR wr rest most = [] := by
  have e : ctOK wr rest most = false := by
    unfold ctOK
    rcases h with h | h | h
    · rw [h]; rfl
    · rw [decide_eq_false h]; simp
    · rw [decide_eq_false h]; simp
  exact ⟨e, by rw [ctV, e]; rfl, by rw [ctR, e]; rfl⟩
theorem ctX_lt (wr : Bool) (rest : List UInt8) : ctX wr rest < 18446744073709551616 := by
  have h : ∀ (w : Bool) (r : List UInt8) (n : Nat), n ≤ 8 → getB (rV w r n) < 18446744073709551616 := fun w r n hn =>
    Nat.lt_of_lt_of_le (getB_lt _) (Nat.le_trans (Nat.pow_le_pow_right (by decide) (Nat.le_trans (rV_le w r n) hn)) (by decide))
  have hn : ctN wr rest ≤ 8 := by
    unfold ctN
    repeat' split
    all_goals omega
  unfold ctX
  split
  · exact h _ _ _ (by decide)
  · exact h _ _ _ hn
theorem ctV_le (wr : Bool) (rest : List UInt8) (most : Nat) : ctV wr rest most ≤ most := by
  unfold ctV
  split
  · rename_i h
    simp only [ctOK, Bool.and_eq_true, decide_eq_true_eq] at h
    exact h.2.2
  · omega
theorem ctR_le (wr : Bool) (rest : List UInt8) (most : Nat) : (ctR wr rest most).length ≤ rest.length := by
  unfold ctR ctT
  repeat' split
  · exact rR_le _ _ _
  · exact Nat.le_trans (rR_le _ _ _) (rR_le _ _ _)
  · simp
theorem ct_wrong (rest : List UInt8) (most : Nat) : ctOK true rest most = false ∧ ctV true rest most = 0 ∧ ctR true rest most = [] := by
  obtain ⟨h1, h2, h3⟩ := rOK_false (wr := true) (rest := rest) (n := 1) (.inl rfl)
  refine ct_bad (.inl ?_)
  have e : ctN true rest = 0 := by unfold ctN; rw [h2]; rfl
  rw [(ct_short e).2.1, h1]
  rfl
/-- Counted bytes: what is told, what is left, whether all was right. -/
def cdV (wr : Bool) (rest : List UInt8) (most : Nat) : List UInt8 := rV (!(ctOK wr rest most)) (ctR wr rest most) (ctV wr rest most)
def cdR (wr : Bool) (rest : List UInt8) (most : Nat) : List UInt8 := rR (!(ctOK wr rest most)) (ctR wr rest most) (ctV wr rest most)
def cdOK (wr : Bool) (rest : List UInt8) (most : Nat) : Bool := rOK (!(ctOK wr rest most)) (ctR wr rest most) (ctV wr rest most)
theorem cdR_le (wr : Bool) (rest : List UInt8) (most : Nat) : (cdR wr rest most).length ≤ rest.length := Nat.le_trans (rR_le _ _ _) (ctR_le _ _ _)
theorem cd_wrong (rest : List UInt8) (most : Nat) : cdV true rest most = [] ∧ cdR true rest most = [] ∧ cdOK true rest most = false := by
  obtain ⟨h1, h2, h3⟩ := ct_wrong rest most
  obtain ⟨g1, g2, g3⟩ := rOK_false (wr := true) (rest := ([] : List UInt8)) (n := 0) (.inl rfl)
  unfold cdV cdR cdOK
  rw [h1, h2, h3]
  exact ⟨g2, g3, g1⟩
/-! ### counts, read: by the bytes -/
def cnN (bs : List UInt8) : Nat := if (bs.getD 0 0).toNat < 253 then 0 else 2 * 2 ^ ((bs.getD 0 0).toNat - 253)
def cnX (bs : List UInt8) : Nat := if (bs.getD 0 0).toNat < 253 then (bs.getD 0 0).toNat else getB ((bs.take (cnN bs + 1)).drop 1)
def cnOK (bs : List UInt8) : Bool := decide (bs.length ≠ 0) && (decide (cnN bs + 1 ≤ bs.length) && decide (cntSz (cnX bs) = cnN bs + 1))
theorem cn_ct {bs : List UInt8} (h : bs.length ≠ 0) : ctN false bs = cnN bs ∧ (cnN bs + 1 ≤ bs.length → ctX false bs = cnX bs ∧ ctW false bs = false ∧ ctT false bs = bs.drop (cnN bs + 1)) ∧ (¬ cnN bs + 1 ≤ bs.length → ctW false bs = true) := by
  obtain ⟨o1, o2, o3⟩ := rOK_true (rest := bs) (n := 1) (by omega)
  cases bs with
  | nil => simp at h
  | cons b t =>
    have hb : b.toNat < 256 := b.toNat_lt
    have e1 : getB (rV false (b :: t) 1) = b.toNat := by rw [o2]; simp [getB]
    have e2 : ((b :: t).getD 0 0) = b := rfl
    have eN : ctN false (b :: t) = cnN (b :: t) := by
      unfold ctN cnN
      rw [e1, e2]
      by_cases h1 : b.toNat < 253
      · rw [if_neg (by omega), if_neg (by omega), if_neg (by omega), if_pos h1]
      · rw [if_neg h1]
        have : b.toNat = 253 ∨ b.toNat = 254 ∨ b.toNat = 255 := by omega
        rcases this with h | h | h <;> rw [h] <;> rfl
    refine ⟨eN, fun hl => ?_, fun hl => ?_⟩
    · by_cases h1 : b.toNat < 253
      · have hn : cnN (b :: t) = 0 := by unfold cnN; rw [e2, if_pos h1]
        obtain ⟨s1, s2, s3⟩ := ct_short (eN.trans hn)
        rw [s1, s2, s3, hn, o1, o3, e1]
        exact ⟨by unfold cnX; rw [e2, if_pos h1], rfl, rfl⟩
      · have hn : cnN (b :: t) ≠ 0 := by
          unfold cnN
          rw [e2, if_neg h1]
          exact Nat.ne_of_gt (Nat.mul_pos (by decide) (Nat.pow_pos (by decide)))
        obtain ⟨s1, s2, s3⟩ := ct_long eN hn
        rw [o1, o3] at s1 s2 s3
        have hd : (b :: t).drop 1 = t := rfl
        have hl2 : cnN (b :: t) ≤ ((b :: t).drop 1).length := by simp only [List.length_cons] at hl; rw [hd]; omega
        obtain ⟨q1, q2, q3⟩ := rOK_true (rest := (b :: t).drop 1) hl2
        refine ⟨?_, ?_, ?_⟩
        · rw [s1, show (!true) = false from rfl, q2, cnX, e2, if_neg h1, hd, List.take_succ_cons, List.drop_succ_cons, List.drop_zero]
        · rw [s2, show (!true) = false from rfl, q1]; rfl
        · rw [s3, show (!true) = false from rfl, q3, hd, List.drop_succ_cons]
    · have hn : cnN (b :: t) ≠ 0 := by simp only [List.length_cons] at hl; omega
      obtain ⟨_, s2, _⟩ := ct_long eN hn
      rw [o1, o3, show (!true) = false from rfl] at s2
      rw [s2, (rOK_false (.inr (show ((b :: t).drop 1).length < cnN (b :: t) by simp only [List.length_cons] at hl; simp only [List.length_drop, List.length_cons]; omega))).1]
      rfl
theorem ct_cn (bs : List UInt8) (most : Nat) : ctOK false bs most = (cnOK bs && decide (cnX bs ≤ most)) ∧ ctV false bs most = (if (cnOK bs && decide (cnX bs ≤ most)) = true then cnX bs else 0) ∧ ctR false bs most = (if (cnOK bs && decide (cnX bs ≤ most)) = true then bs.drop (cnN bs + 1) else []) := by
  have key : ctOK false bs most = (cnOK bs && decide (cnX bs ≤ most)) := by
    by_cases h0 : bs.length = 0
    · have hb : bs = [] := List.eq_nil_of_length_eq_zero h0
      subst hb
      rfl
    · obtain ⟨a, b, c⟩ := cn_ct h0
      unfold ctOK cnOK
      rw [decide_eq_true h0, a]
      by_cases hl : cnN bs + 1 ≤ bs.length
      · obtain ⟨b1, b2, b3⟩ := b hl
        rw [b1, b2, decide_eq_true hl]
        simp
      · rw [c hl, decide_eq_false hl]
        simp
  refine ⟨key, ?_, ?_⟩
  · unfold ctV
    rw [key]
    by_cases h : (cnOK bs && decide (cnX bs ≤ most)) = true
    · rw [if_pos h, if_pos h]
      simp only [Bool.and_eq_true, cnOK, decide_eq_true_eq] at h
      exact ((cn_ct h.1.1).2.1 h.1.2.1).1
    · rw [if_neg h, if_neg h]
  · unfold ctR
    rw [key]
    by_cases h : (cnOK bs && decide (cnX bs ≤ most)) = true
    · rw [if_pos h, if_pos h]
      simp only [Bool.and_eq_true, cnOK, decide_eq_true_eq] at h
      exact ((cn_ct h.1.1).2.1 h.1.2.1).2.2
    · rw [if_neg h, if_neg h]
theorem getB_app (a b : List UInt8) : getB ((a ++ b).take a.length) = getB a := by rw [List.take_left']; rfl
/-- What was written as a count is read again. -/
theorem cn_cnt {x : Nat} (hx : x < 18446744073709551616) (t : List UInt8) : cnOK (cnt x ++ t) = true ∧ cnX (cnt x ++ t) = x ∧ (cnt x ++ t).drop (cnN (cnt x ++ t) + 1) = t ∧ cnN (cnt x ++ t) + 1 = cntSz x := by
  have hl := cnt_length x
  have key : cnN (cnt x ++ t) + 1 = cntSz x ∧ cnX (cnt x ++ t) = x := by
    rcases cnt_cases x with ⟨h1, h, e⟩ | ⟨h0, h1, h, e⟩ | ⟨h0, h1, h, e⟩ | ⟨h0, h, e⟩
    · have hb : ((cnt x ++ t).getD 0 0).toNat = x := by
        rw [e]
        show (UInt8.ofNat x).toNat = x
        rw [u8_ofNat]
        omega
      refine ⟨?_, ?_⟩
      · unfold cnN
        rw [hb, if_pos h1, h]
      · unfold cnX
        rw [hb, if_pos h1]
    · have hb : ((cnt x ++ t).getD 0 0).toNat = 253 := by rw [e]; rfl
      have hn : cnN (cnt x ++ t) = 2 := by unfold cnN; rw [hb]; rfl
      refine ⟨by rw [hn, h], ?_⟩
      unfold cnX
      rw [hb, if_neg (by decide), hn, e]
      show getB ((putB x 2 ++ t).take 2) = x
      rw [List.take_left' (putB_length 2 x), getB_put]
      omega
    · have hb : ((cnt x ++ t).getD 0 0).toNat = 254 := by rw [e]; rfl
      have hn : cnN (cnt x ++ t) = 4 := by unfold cnN; rw [hb]; rfl
      refine ⟨by rw [hn, h], ?_⟩
      unfold cnX
      rw [hb, if_neg (by decide), hn, e]
      show getB ((putB x 4 ++ t).take 4) = x
      rw [List.take_left' (putB_length 4 x), getB_put]
      omega
    · have hb : ((cnt x ++ t).getD 0 0).toNat = 255 := by rw [e]; rfl
      have hn : cnN (cnt x ++ t) = 8 := by unfold cnN; rw [hb]; rfl
      refine ⟨by rw [hn, h], ?_⟩
      unfold cnX
      rw [hb, if_neg (by decide), hn, e]
      show getB ((putB x 8 ++ t).take 8) = x
      rw [List.take_left' (putB_length 8 x), getB_put]
      omega
  obtain ⟨k1, k2⟩ := key
  have hs := (cntSz_le x).1
  refine ⟨?_, k2, ?_, k1⟩
  · unfold cnOK
    rw [k1, k2, decide_eq_true (show (cnt x ++ t).length ≠ 0 by rw [List.length_append]; omega), decide_eq_true (show cntSz x ≤ (cnt x ++ t).length by rw [List.length_append]; omega), decide_eq_true rfl]
    rfl
  · rw [k1, ← hl, List.drop_left']
    rfl
/-! ### slices that stay while blocks of a footprint turn -/
section
variable {P : Program} {w0 w w' : World} {S : List Nat} {L A' B' : List Ent}
/-- What is read of A stays, whatever becomes of the blocks S. -/
def RdO (w : World) (S : List Nat) (A : Option Addr) (xs : List Value) : Prop :=
  ∀ W : World, w.heap.size ≤ W.heap.size → (∀ k, k < w.heap.size → k ∉ S → W.heap[k]? = w.heap[k]?) → RdS W A xs
theorem RdO.hp {A : Option Addr} {xs : List Value} (h : RdO w S A xs) (H : Hp w S L w') : RdS w' A xs := h w' H.size H.keep
theorem RdO.of {A : Option Addr} {xs : List Value} (h : RdS w A xs) : RdO w [] A xs := by
  intro W hs hk
  rcases h with h | ⟨a, hA, ha, hc⟩
  · exact .inl h
  · refine .inr ⟨a, hA, Nat.lt_of_lt_of_le ha hs, fun j v hv => ?_⟩
    rw [World.cell?_of_block (w := w) (hk (a.add j).block (by rw [add_block]; exact ha) (by simp))]
    exact hc j v hv
theorem RdO.mid {A : Option Addr} {xs : List Value} (h : RdO w0 S A xs) (H : Hp w0 S (A' ++ B') w) : RdO w (ids A') A xs := by
  intro W hs hk
  refine h W (Nat.le_trans H.size hs) (fun k hk0 hS => ?_)
  refine (hk k (Nat.lt_of_lt_of_le hk0 H.size) (fun hin => ?_)).trans (H.keep k hk0 hS)
  rcases H.old k (by rw [ids_append]; exact List.mem_append_left _ hin) with h | h
  · omega
  · exact hS h
theorem RdO.row (H : Hp w0 S (A' ++ B') w) (i : Nat) {R : Option Addr} {n c e : Nat} {xs : List Value} (hL : B'[i]? = some (.row R n c e 1 xs)) : RdO w (ids A') R xs := by
  have hr : RdS w R xs := RdS.row (H.ents _ (List.mem_append_right _ (List.mem_of_getElem? hL)))
  have hnd := H.nd
  rw [ids_append] at hnd
  obtain ⟨_, _, n3⟩ := List.nodup_append.1 hnd
  intro W hs hk
  rcases hr with h | ⟨a, hA, ha, hc⟩
  · exact .inl h
  · refine .inr ⟨a, hA, Nat.lt_of_lt_of_le ha hs, fun j v hv => ?_⟩
    have hb : (a.add j).block = a.block := add_block a j
    rw [World.cell?_of_block (w := w) (hk (a.add j).block (by rw [hb]; exact ha) (fun hin => ?_))]
    · exact hc j v hv
    · rw [hb] at hin
      exact n3 _ hin _ (ids_mem (List.mem_of_getElem? hL) (by subst hA; simp [Ent.ids])) rfl
end
/-! ### items -/
section
variable {H : Type} {enc : TypeId × Value → H} {P : Program} {w : World} {sp : Nat → Bool} {held : Bool}
theorem four_of {cs : List Value} {a b c d : Value} (hl : cs.length = 4) (h0 : cs[0]? = some a) (h1 : cs[1]? = some b) (h2 : cs[2]? = some c) (h3 : cs[3]? = some d) : cs = [a, b, c, d] := by
  match cs, hl with
  | [x, y, z, t], _ =>
    simp at h0 h1 h2 h3
    rw [h0, h1, h2, h3]
/-- Elements of two whole numbers, a word and bytes. -/
theorem open_items {t e e1 e2 e3 e4 e5 : TypeId} {fuel : Nat} {cs : List Value} {x : DataW H × List MemPlace} (ht : P.underlying t = some (.slice e)) (hc : P.cellsOf e = 4) (hok : lvOk P 1 e = true) (hls : lv P 1 e 0 = [(0, e1), (1, e2), (2, e3), (3, e4)])
    (h1 : P.underlying e1 = some (.int .i64)) (h2 : P.underlying e2 = some (.int .i64)) (h3 : P.underlying e3 = some (.int .u64)) (h4 : P.underlying e4 = some (.slice e5)) (h5 : P.underlying e5 = some (.int .u8)) (h6 : P.cellsOf e5 = 1) (h : DataW.trod enc P w 0 sp held fuel t cs = some x) :
    ∃ (A : Option Addr) (n c : Nat) (xs : List Value) (k s : Nat → Int) (f : Nat → Nat) (B : Nat → Option Addr) (bs : Nat → List UInt8) (bc : Nat → Nat), cs = [.slice A n c] ∧ RdS w A xs ∧ xs.length = n * 4 ∧ n ≤ c ∧ c ≤ maxLen ∧ (∀ i, f i < 2 ^ 64) ∧ (∀ i, -9223372036854775808 ≤ s i ∧ s i ≤ 9223372036854775807) ∧
      (∀ i, RdS w (B i) (by8 (bs i)) ∧ (bs i).length ≤ bc i ∧ bc i ≤ maxLen) ∧
      ∀ i, i < n → (xs.drop (i * 4)).take 4 = [.int .i64 (k i), .int .i64 (s i), .int .u64 ((f i : Nat) : Int), .slice (B i) (bs i).length (bc i)] := by
  obtain ⟨A, n, c, xs, rfl, hr, hl, hnc, hcm, hel⟩ := open_structs 4 ht hc (by decide) h
  have hC : ∀ i, ∃ p : Int × Int × Nat × Option Addr × List UInt8 × Nat, p.2.2.1 < 2 ^ 64 ∧ (-9223372036854775808 ≤ p.2.1 ∧ p.2.1 ≤ 9223372036854775807) ∧ (RdS w p.2.2.2.1 (by8 p.2.2.2.2.1) ∧ p.2.2.2.2.1.length ≤ p.2.2.2.2.2 ∧ p.2.2.2.2.2 ≤ maxLen) ∧
      (i < n → (xs.drop (i * 4)).take 4 = [.int .i64 p.1, .int .i64 p.2.1, .int .u64 ((p.2.2.1 : Nat) : Int), .slice p.2.2.2.1 p.2.2.2.2.1.length p.2.2.2.2.2]) := by
    intro i
    by_cases hi : i < n
    · obtain ⟨hl3, m, y, hy⟩ := hel i hi
      have hlv := open_leaves 1 (by rw [hc]; exact hl3) hok hy hls
      obtain ⟨z, g1, _⟩ := (hlv (0, e1) (by simp)).int h1
      obtain ⟨s, g2, l2⟩ := (hlv (1, e2) (by simp)).int h2
      obtain ⟨q, g3, l3⟩ := (hlv (2, e3) (by simp)).u64 h3
      obtain ⟨B, bs, bc, g4, l4, l5, l6⟩ := (hlv (3, e4) (by simp)).bytes h4 h5 h6
      refine ⟨(z, s, q, B, bs, bc), l3, ?_, ⟨l4, l5, l6⟩, fun _ => four_of hl3 g1 g2 g3 g4⟩
      simp [Lit.wf, IntKind.min, IntKind.max, IntKind.signed, IntKind.bits] at l2
      show -9223372036854775808 ≤ s ∧ s ≤ 9223372036854775807
      omega
    · exact ⟨(0, 0, 0, none, [], 0), by decide, by decide, ⟨.inl rfl, by decide, by decide⟩, fun hh => absurd hh hi⟩
  exact ⟨A, n, c, xs, fun i => (Classical.choose (hC i)).1, fun i => (Classical.choose (hC i)).2.1, fun i => (Classical.choose (hC i)).2.2.1, fun i => (Classical.choose (hC i)).2.2.2.1, fun i => (Classical.choose (hC i)).2.2.2.2.1, fun i => (Classical.choose (hC i)).2.2.2.2.2, rfl, hr, hl, hnc, hcm,
    fun i => (Classical.choose_spec (hC i)).1, fun i => (Classical.choose_spec (hC i)).2.1, fun i => (Classical.choose_spec (hC i)).2.2.1, fun i hi => (Classical.choose_spec (hC i)).2.2.2 hi⟩
end
end Go.Proofs.Ytgmggjnoegelgaa
