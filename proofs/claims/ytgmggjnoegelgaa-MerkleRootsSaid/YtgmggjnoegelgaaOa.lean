/- Numbers as bytes, the lowest first; calls that turn several things of the caller's; what is read out of a row. Plain laws over any program. -/
import Derived.Test.YtgmggjnoegelgaaGi
import Derived.Test.YtgmggjnoegelgaaNb
namespace Go.Proofs.Ytgmggjnoegelgaa
open Go.RowKit

/-- A number in so many bytes. -/
def putB : Nat → Nat → List UInt8
  | _, 0 => []
  | x, n + 1 => UInt8.ofNat x :: putB (x / 256) n
/-- The number of bytes. -/
def getB : List UInt8 → Nat
  | [] => 0
  | b :: bs => b.toNat + 256 * getB bs
theorem putB_length : ∀ (n x : Nat), (putB x n).length = n
  | 0, _ => rfl
  | n + 1, x => by rw [putB, List.length_cons, putB_length n]
theorem u8_ofNat (x : Nat) : (UInt8.ofNat x).toNat = x % 256 := by simp
theorem n_byte (x : Nat) : IntKind.u8.wrap (x : Int) = (((UInt8.ofNat x).toNat : Nat) : Int) := by rw [IntKind.wrap_u8, u8_ofNat]; omega
theorem putB_snoc : ∀ (i x : Nat), putB x (i + 1) = putB x i ++ [UInt8.ofNat (x / 256 ^ i)]
  | 0, x => by simp [putB]
  | i + 1, x => by
    rw [putB, putB_snoc i (x / 256), putB, Nat.pow_succ, Nat.mul_comm, ← Nat.div_div_eq_div_mul]
    rfl
theorem putB_mod : ∀ (n x : Nat), putB (x % 256 ^ n) n = putB x n
  | 0, _ => rfl
  | n + 1, x => by
    have h1 : UInt8.ofNat (x % 256 ^ (n + 1)) = UInt8.ofNat x := UInt8.toNat_inj.1 (by rw [u8_ofNat, u8_ofNat, Nat.pow_succ, Nat.mul_comm, Nat.mod_mul_right_mod])
    have h2 : x % 256 ^ (n + 1) / 256 = x / 256 % 256 ^ n := by rw [Nat.pow_succ, Nat.mul_comm, Nat.mod_mul_right_div_self]
    rw [putB, putB, h1, h2, putB_mod n]
theorem getB_lt : ∀ bs : List UInt8, getB bs < 256 ^ bs.length
  | [] => by simp [getB]
  | b :: bs => by
    have h1 := getB_lt bs
    have h2 := UInt8.toNat_lt b
    rw [getB, List.length_cons, Nat.pow_succ]
    omega
theorem getB_put : ∀ (n x : Nat), getB (putB x n) = x % 256 ^ n
  | 0, x => by simp [getB, putB, Nat.mod_one]
  | n + 1, x => by rw [putB, getB, getB_put n, u8_ofNat, Nat.pow_succ, Nat.mul_comm (256 ^ n), Nat.mod_mul]
theorem putB_get : ∀ bs : List UInt8, putB (getB bs) bs.length = bs
  | [] => rfl
  | b :: bs => by
    have h2 := UInt8.toNat_lt b
    have e1 : UInt8.ofNat (b.toNat + 256 * getB bs) = b := UInt8.toNat_inj.1 (by rw [u8_ofNat]; omega)
    have e2 : (b.toNat + 256 * getB bs) / 256 = getB bs := by omega
    rw [getB, List.length_cons, putB, e1, e2, putB_get bs]
theorem getB_drop {bs : List UInt8} {k : Nat} {b : UInt8} (h : bs[k]? = some b) : getB (bs.drop k) = b.toNat + 256 * getB (bs.drop (k + 1)) := by
  obtain ⟨hk, hx⟩ := List.getElem?_eq_some_iff.1 h
  rw [List.drop_eq_getElem_cons hk, hx, getB]
theorem putB_inj {x y n : Nat} (hx : x < 256 ^ n) (hy : y < 256 ^ n) (h : putB x n = putB y n) : x = y := by
  have h2 := congrArg getB h
  rwa [getB_put, getB_put, Nat.mod_eq_of_lt hx, Nat.mod_eq_of_lt hy] at h2
/-- x << 8 | b. -/
theorem or_low {x b : Nat} (hx : x < 72057594037927936) (hb : b < 256) : Go.bits .or .u64 ((x * 2 ^ 8 : Nat) : Int) (b : Int) = ((b + 256 * x : Nat) : Int) := by
  have h1 : x * 2 ^ 8 < K := by simp only [K]; omega
  rw [n_or h1 (Nat.lt_trans hb (by decide)), Nat.mul_comm, ← Nat.two_pow_add_eq_or_of_lt (i := 8) hb]
  congr 1
  omega

section
variable {P : Program} {w0 w w' : World} {S : List Nat} {A B A' : List Ent}
/-- A call begins that knows the things A of its caller's. -/
theorem Hp.startL (H : Hp w0 S (A ++ B) w) : Hp w (ids A) A w :=
  ⟨rfl, rfl, rfl, Nat.le_refl _, fun _ _ _ => rfl, fun e he => H.ents e (List.mem_append_left _ he), fun _ hk => .inr hk, by have := H.nd; rw [ids_append] at this; exact (List.nodup_append.1 this).1⟩
/-- It ends: they are turned, all else stays. -/
theorem Hp.callL (H : Hp w0 S (A ++ B) w) (H' : Hp w (ids A) A' w') : Hp w0 S (A' ++ B) w' := by
  have hnd := H.nd
  rw [ids_append] at hnd
  obtain ⟨n1, n2, n3⟩ := List.nodup_append.1 hnd
  refine ⟨H'.os.trans H.os, H'.tape.trans H.tape, H'.output.trans H.output, Nat.le_trans H.size H'.size, ?_, ?_, ?_, ?_⟩
  · intro k hk hS
    refine (H'.keep k (Nat.lt_of_lt_of_le hk H.size) (fun hin => ?_)).trans (H.keep k hk hS)
    rcases H.old k (by rw [ids_append]; exact List.mem_append_left _ hin) with h | h
    · omega
    · exact hS h
  · intro e he
    rcases List.mem_append.1 he with he | he
    · exact H'.ents e he
    · have hh := H.ents e (List.mem_append_right _ he)
      refine Ent.same hh (fun k hk => H'.keep k (Ent.lt hh k hk) (fun hin => ?_))
      exact n3 k hin k (ids_mem he hk) rfl
  · intro k hk
    rw [ids_append] at hk
    rcases List.mem_append.1 hk with hk | hk
    · rcases H'.old k hk with h | h
      · exact .inl (Nat.le_trans H.size h)
      · exact H.old k (by rw [ids_append]; exact List.mem_append_left _ h)
    · exact H.old k (by rw [ids_append]; exact List.mem_append_right _ hk)
  · rw [ids_append]
    refine List.nodup_append.2 ⟨H'.nd, n2, fun a ha b hb hab => ?_⟩
    subst hab
    rcases H'.old a ha with h | h
    · have := H.lt a (by rw [ids_append]; exact List.mem_append_right _ hb)
      omega
    · exact n3 a h a hb rfl
theorem Hp.right (H : Hp w0 S (A ++ B) w) : Hp w0 S B w := H.sub (List.sublist_append_right _ _)
end
/-- Of whatever row that holds 'whole' the slice A' reads 'rest'. -/
def Cut (R : Option Addr) (whole : List UInt8) (A' : Option Addr) (rest : List UInt8) : Prop := ∀ W, RdS W R (by8 whole) → RdS W A' (by8 rest)
theorem Cut.refl (R : Option Addr) (whole : List UInt8) : Cut R whole R whole := fun _ h => h
theorem Cut.nil (R : Option Addr) (whole : List UInt8) (A' : Option Addr) : Cut R whole A' [] := fun W _ => RdS.nil W A'
theorem Cut.drop {R A' : Option Addr} {whole rest : List UInt8} {cap : Nat} (h : Cut R whole A' rest) (n : Nat) (hc : rest.length ≤ cap) : Cut R whole (if cap = n then A' else A'.map (·.add n)) (rest.drop n) := fun W hW => RdS.drop8 (h W hW) n hc rfl
/-- What a reader does with n bytes: can it? what it tells, what is left. -/
def rOK (wr : Bool) (rest : List UInt8) (n : Nat) : Bool := !wr && decide (n ≤ rest.length)
def rV (wr : Bool) (rest : List UInt8) (n : Nat) : List UInt8 := if rOK wr rest n then rest.take n else []
def rR (wr : Bool) (rest : List UInt8) (n : Nat) : List UInt8 := if rOK wr rest n then rest.drop n else []
theorem rOK_true {rest : List UInt8} {n : Nat} (h : n ≤ rest.length) : rOK false rest n = true ∧ rV false rest n = rest.take n ∧ rR false rest n = rest.drop n := by
  have : rOK false rest n = true := by simp [rOK, h]
  exact ⟨this, if_pos this, if_pos this⟩
theorem rOK_false {wr : Bool} {rest : List UInt8} {n : Nat} (h : wr = true ∨ rest.length < n) : rOK wr rest n = false ∧ rV wr rest n = [] ∧ rR wr rest n = [] := by
  have : rOK wr rest n = false := by
    rcases h with h | h
    · simp [rOK, h]
    · simp only [rOK, Bool.and_eq_false_iff, decide_eq_false_iff_not]
      exact .inr (by omega)
  exact ⟨this, by rw [rV, this]; rfl, by rw [rR, this]; rfl⟩
theorem rV_le (wr : Bool) (rest : List UInt8) (n : Nat) : (rV wr rest n).length ≤ n := by
  unfold rV
  split
  · simp; omega
  · simp
theorem rR_le (wr : Bool) (rest : List UInt8) (n : Nat) : (rR wr rest n).length ≤ rest.length := by
  unfold rR
  split
  · simp
  · simp
end Go.Proofs.Ytgmggjnoegelgaa
