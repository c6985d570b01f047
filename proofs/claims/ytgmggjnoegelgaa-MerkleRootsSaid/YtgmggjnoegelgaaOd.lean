/- Bytes of a string; bytes turned over; what is read by a number that may be below 0. Plain laws. -/
import Derived.Test.YtgmggjnoegelgaaOc
namespace Go.Proofs.Ytgmggjnoegelgaa
open Go.RowKit

section
variable {P : Program} {w0 w : World} {S : List Nat} {L : List Ent}
/-- '[]byte(s)'. -/
theorem Hp.ofStr (H : Hp w0 S L w) {src dst e : TypeId} (hs : isStr P src = true) (hd : P.underlying dst = some (.slice e)) (he : P.underlying e = some (.int .u8)) (bs : List UInt8) :
    ∃ b c k w', (convert src dst (.string (strOf bs))).run P w = .ok (.slice (some ⟨b, 0, none⟩) bs.length c) w' ∧ Hp w0 S (L ++ [.blk b (by8 bs ++ List.replicate k (Value.int .u8 0)) e]) w' := by
  have hrun := Lib.run_convert_string_bytes (P := P) w src dst e (strOf bs) (isStr_spec hs) hd he
  have hsz : (strOf bs).size = bs.length := by simp [strOf, ByteArray.size]
  rw [hsz] at hrun
  have hcells : Lib.bytesCells w e (strOf bs) = (by8 bs ++ List.replicate (grownCap w bs.length 0 e - bs.length) (Value.int .u8 0)).toArray := by
    unfold Lib.bytesCells
    rw [hsz]
    refine Array.ext' ?_
    simp [strOf, by8]
  refine ⟨w.heap.size, _, grownCap w bs.length 0 e - bs.length, _, hrun, H.callNew ⟨rfl, rfl, rfl, ?_, fun k hk _ => Lib.bytesWorld_at_old w e _ k hk, ?_, ?_, by simp [ids, Ent.ids]⟩⟩
  · rw [Lib.bytesWorld_size]
    omega
  · intro x hx
    simp at hx
    subst hx
    refine ⟨_, _, (Lib.bytesWorld_at_new w e (strOf bs)).trans (by rw [hcells]), .inr ?_⟩
    simp
  · intro k hk
    simp [ids, Ent.ids] at hk
    omega
theorem take_by8 (bs : List UInt8) (Z : List Value) : ((by8 bs ++ Z).drop 0).take bs.length = by8 bs := by
  rw [List.drop_zero, List.take_left' (by8_length bs)]
end
theorem n_xor255 (b : UInt8) : Go.bits .xor .u8 (b.toNat : Int) 255 = ((b ^^^ 255).toNat : Int) := by
  have h : ∀ x : Fin 256, Go.bits .xor .u8 ((x.val : Nat) : Int) 255 = ((UInt8.ofNat x.val ^^^ 255).toNat : Int) := by decide +kernel
  have := h ⟨b.toNat, b.toNat_lt⟩
  simpa using this
/-! ### so many bytes, if the number is not below 0 -/
def zOK (wr : Bool) (rest : List UInt8) (z : Int) : Bool := if z < 0 then false else rOK wr rest z.toNat
def zV (wr : Bool) (rest : List UInt8) (z : Int) : List UInt8 := if z < 0 then [] else rV wr rest z.toNat
def zR (wr : Bool) (rest : List UInt8) (z : Int) : List UInt8 := if z < 0 then [] else rR wr rest z.toNat
theorem z_neg {wr : Bool} {rest : List UInt8} {z : Int} (h : z < 0) : zOK wr rest z = false ∧ zV wr rest z = [] ∧ zR wr rest z = [] := ⟨if_pos h, if_pos h, if_pos h⟩
theorem z_nat {wr : Bool} {rest : List UInt8} {z : Int} (h : 0 ≤ z) : zOK wr rest z = rOK wr rest z.toNat ∧ zV wr rest z = rV wr rest z.toNat ∧ zR wr rest z = rR wr rest z.toNat := ⟨if_neg (by omega), if_neg (by omega), if_neg (by omega)⟩
theorem rOK_cases (wr : Bool) (rest : List UInt8) (n : Nat) : (rOK wr rest n = true ∧ wr = false ∧ n ≤ rest.length) ∨ (rOK wr rest n = false ∧ rV wr rest n = [] ∧ rR wr rest n = []) := by
  by_cases h : wr = true ∨ rest.length < n
  · exact .inr (rOK_false h)
  · have hw : wr = false := by cases wr <;> simp_all
    subst hw
    exact .inl ⟨(rOK_true (by omega)).1, rfl, by omega⟩
theorem rR_wrong {wr : Bool} {rest : List UInt8} {n : Nat} (h : (!(rOK wr rest n)) = true) : rR wr rest n = [] := by
  rcases rOK_cases wr rest n with ⟨a, _⟩ | ⟨_, _, a⟩
  · rw [a] at h; cases h
  · exact a
theorem zR_wrong {wr : Bool} {rest : List UInt8} {z : Int} (h : (!(zOK wr rest z)) = true) : zR wr rest z = [] := by
  by_cases hz : z < 0
  · exact (z_neg hz).2.2
  · obtain ⟨a, _, c⟩ := z_nat (wr := wr) (rest := rest) (z := z) (by omega)
    rw [c]
    rw [a] at h
    exact rR_wrong h
theorem ctR_wrong {wr : Bool} {rest : List UInt8} {m : Nat} (h : (!(ctOK wr rest m)) = true) : ctR wr rest m = [] := by
  unfold ctR
  rw [if_neg (by cases hc : ctOK wr rest m <;> simp_all)]
theorem cdR_wrong {wr : Bool} {rest : List UInt8} {m : Nat} (h : (!(cdOK wr rest m)) = true) : cdR wr rest m = [] := rR_wrong h
theorem rR_le2 (wr : Bool) (rest : List UInt8) (n : Nat) : (rR wr rest n).length ≤ rest.length := rR_le wr rest n
theorem zR_le (wr : Bool) (rest : List UInt8) (z : Int) : (zR wr rest z).length ≤ rest.length := by
  unfold zR
  split
  · simp
  · exact rR_le _ _ _
theorem zV_le {wr : Bool} {rest : List UInt8} {z : Int} (h : z = 1 ∨ z = 2 ∨ z = 4 ∨ z = 8) : (zV wr rest z).length ≤ 8 := by
  rw [(z_nat (show 0 ≤ z by omega)).2.1]
  exact Nat.le_trans (rV_le _ _ _) (by omega)
theorem ct_mok {rest : List UInt8} {m v s : Nat} {wr : Bool} (hv : cnOK rest = true → v = cnX rest ∧ s = cnN rest + 1) (hw : wr = false) (h1 : cnOK rest = true) (h2 : v ≤ m) :
    ctOK wr rest m = true ∧ ctV wr rest m = v ∧ ctR wr rest m = rest.drop s ∧ s ≤ rest.length := by
  subst hw
  obtain ⟨e1, e2⟩ := hv h1
  obtain ⟨a, b, c⟩ := ct_cn rest m
  rw [a, b, c, h1, decide_eq_true (show cnX rest ≤ m by omega), ← e1, ← e2]
  refine ⟨rfl, rfl, rfl, ?_⟩
  simp only [cnOK, Bool.and_eq_true, decide_eq_true_eq] at h1
  omega
theorem ct_mbad {rest : List UInt8} {m v s : Nat} {wr : Bool} (hv : cnOK rest = true → v = cnX rest ∧ s = cnN rest + 1) (h : wr = true ∨ cnOK rest = false ∨ m < v) :
    ctOK wr rest m = false ∧ ctV wr rest m = 0 ∧ ctR wr rest m = [] := by
  cases wr with
  | true => exact ct_wrong rest m
  | false =>
    obtain ⟨a, b, c⟩ := ct_cn rest m
    have key : (cnOK rest && decide (cnX rest ≤ m)) = false := by
      cases hc : cnOK rest with
      | false => rfl
      | true =>
        obtain ⟨e1, _⟩ := hv hc
        rcases h with h | h | h
        · cases h
        · rw [hc] at h
          cases h
        · rw [decide_eq_false (show ¬ cnX rest ≤ m by omega)]
          rfl
    rw [a, b, c, key]
    exact ⟨rfl, rfl, rfl⟩
theorem cd_bad {wr : Bool} {rest : List UInt8} {m : Nat} (h : ctOK wr rest m = false) : cdV wr rest m = [] ∧ cdR wr rest m = [] ∧ cdOK wr rest m = false := by
  have hr := ctR_wrong (wr := wr) (rest := rest) (m := m) (by rw [h]; rfl)
  obtain ⟨g1, g2, g3⟩ := rOK_false (wr := true) (rest := ([] : List UInt8)) (n := ctV wr rest m) (.inl rfl)
  unfold cdV cdR cdOK
  rw [h, hr]
  exact ⟨g2, g3, g1⟩
end Go.Proofs.Ytgmggjnoegelgaa
