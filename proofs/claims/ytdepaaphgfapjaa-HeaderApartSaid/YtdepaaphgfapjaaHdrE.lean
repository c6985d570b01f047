/- Heads held against each other; heads as arguments. -/
import Derived.Test.YtdepaaphgfapjaaHdrB
import Derived.Test.YtdepaaphgfapjaaGh
import Derived.Test.YtdepaaphgfapjaaOe
namespace Go.Proofs.Ytdepaaphgfapjaa
open Go.RowKit
theorem u32wf {n : Nat} (h : n < 4294967296) : (Lit.int .u32 (n : Int)).wf = true := by
  simp [Lit.wf, IntKind.min, IntKind.max, IntKind.signed, IntKind.bits]
  omega
theorem lits_u32 {P : Program} {d t n : Nat} (ht : P.underlying t = some (.int .u32)) (h : n < 4294967296) : P.keyLits (d + 1) t [.int .u32 (n : Int)] = some [.int .u32 (n : Int)] := by
  simp [Program.keyLits, ht, u32wf h]
def lit8s (A : List UInt8) : List Lit := (List.range 32).map fun i => Lit.int .u8 ((A.getD i 0).toNat : Int)
theorem by8_fun {A : List UInt8} (h : A.length = 32) : by8 A = (List.range 32).map fun i => Value.int .u8 ((A.getD i 0).toNat : Int) := by
  refine List.ext_getElem? fun i => ?_
  by_cases hi : i < 32
  · rw [by8_at (getD8 (bs := A) (k := i) (by omega)), List.getElem?_map, List.getElem?_range hi]
    rfl
  · rw [List.getElem?_eq_none (by rw [by8_length]; omega), List.getElem?_eq_none (by simp; omega)]
def hdL (v : Nat) (A R : List UInt8) (t b n : Nat) : List Lit := [.int .u32 (v : Int)] ++ (lit8s A ++ (lit8s R ++ ([.int .u32 (t : Int)] ++ ([.int .u32 (b : Int)] ++ [.int .u32 (n : Int)]))))
theorem hd_lits {v t b n : Nat} {A R : List UInt8} (hA : A.length = 32) (hR : R.length = 32) (hv : v < 4294967296) (ht : t < 4294967296) (hb : b < 4294967296) (hn : n < 4294967296) :
    Try.prog.keyLits 3 26 (hdC v A R t b n) = some (hdL v A R t b n) := by
  rw [keyLits_struct Try.underlying26, if_pos ⟨by rw [hdC_length hA hR]; kernel_rfl, by kernel_rfl⟩]
  have one : ∀ {l : List Value} {q : Value} {i : Nat}, l[i]? = some q → (l.drop i).take 1 = [q] := fun {l q i} h => by
    have hi := (List.getElem?_eq_some_iff.1 h).1
    rw [List.drop_eq_getElem_cons hi, List.take_succ_cons, List.take_zero, (List.getElem?_eq_some_iff.1 h).2]
  simp only [List.mapM_cons, List.mapM_nil]
  rw [show Try.prog.cellsOf 22 = 1 by kernel_rfl, show Try.prog.cellsOf 24 = 32 by kernel_rfl]
  rw [show ((hdC v A R t b n).drop 0).take 1 = [.int .u32 (v : Int)] from rfl, hdC_A hA, hdC_R hA hR, one (hdC_t hA hR), one (hdC_b hA hR), one (hdC_n hA hR)]
  rw [lits_u32 Try.underlying22 hv, lits_u32 Try.underlying22 ht, lits_u32 Try.underlying22 hb, lits_u32 Try.underlying22 hn, by8_fun hA, by8_fun hR, lits_u8s (d := 0) Try.underlying24 Try.underlying5 (by kernel_rfl) (by kernel_rfl), lits_u8s (d := 0) Try.underlying24 Try.underlying5 (by kernel_rfl) (by kernel_rfl)]
  rfl
theorem lit8s_inj {A B : List UInt8} (hA : A.length = 32) (hB : B.length = 32) (h : lit8s A = lit8s B) : A = B :=
  ext8 (by rw [hA, hB]) fun i hi => by
    have := List.map_inj_left.1 h i (List.mem_range.2 (by omega))
    injection this with _ this
    exact UInt8.toNat_inj.1 (by omega)
/-- The same head? -/
def sameH (v : Nat) (A R : List UInt8) (t b n v' : Nat) (A' R' : List UInt8) (t' b' n' : Nat) : Bool := decide (v = v' ∧ A = A' ∧ R = R' ∧ t = t' ∧ b = b' ∧ n = n')
theorem run_hd_eql {x y : Operand} {v t b n v' t' b' n' : Nat} {A R A' R' : List UInt8} (hA : A.length = 32) (hR : R.length = 32) (hv : v < 4294967296) (ht : t < 4294967296) (hb : b < 4294967296) (hn : n < 4294967296)
    (hA' : A'.length = 32) (hR' : R'.length = 32) (hv' : v' < 4294967296) (ht' : t' < 4294967296) (hb' : b' < 4294967296) (hn' : n' < 4294967296) (w : World) :
    (do eqGuard .eql 26 x y (.agg (hdC v A R t b n).toArray) (.agg (hdC v' A' R' t' b' n').toArray); binOp .eql 26 (.agg (hdC v A R t b n).toArray) (.agg (hdC v' A' R' t' b' n').toArray) : Sem Value).run Try.prog w = .ok (.bool (sameH v A R t b n v' A' R' t' b' n')) w := by
  have hf : ∀ {v t b n : Nat} {A R : List UInt8}, A.length = 32 → R.length = 32 → Value.formed Try.prog 26 (.agg (hdC v A R t b n).toArray) = true := fun {v t b n A R} hA hR => by
    have e : ((hdC v A R t b n).toArray).size = 68 := by simp [hdC_length hA hR]
    have c : Try.prog.cellsOf 26 = 68 := by kernel_rfl
    unfold Value.formed
    rw [Try.underlying26]
    simp only [e]
    first | kernel_rfl | (simp [c]; done) | (rw [c]; rfl)
  obtain ⟨r, h1, h2⟩ := run_deep_eql (P := Try.prog) (x := x) (y := y) (m := 3) (t := 26) (by kernel_rfl) (by decide) (hf hA hR) (hf hA' hR') (hd_lits hA hR hv ht hb hn) (hd_lits hA' hR' hv' ht' hb' hn') w
  rw [h1]
  have : r = sameH v A R t b n v' A' R' t' b' n' := by
    rw [Bool.eq_iff_iff, h2, sameH, decide_eq_true_iff]
    constructor
    · intro h
      have l : ∀ X, (lit8s X).length = 32 := fun X => by simp [lit8s]
      unfold hdL at h
      obtain ⟨e1, h⟩ := List.append_inj h rfl
      obtain ⟨e2, h⟩ := List.append_inj h (by rw [l, l])
      obtain ⟨e3, h⟩ := List.append_inj h (by rw [l, l])
      simp only [List.cons_append, List.nil_append, List.cons.injEq, Lit.int.injEq, true_and, and_true] at e1 h
      exact ⟨by omega, lit8s_inj hA hA' e2, lit8s_inj hR hR' e3, by omega, by omega, by omega⟩
    · rintro ⟨rfl, rfl, rfl, rfl, rfl, rfl⟩
      rfl
  rw [this]
theorem putB4_inj {x y : Nat} (hx : x < 4294967296) (hy : y < 4294967296) (h : putB x 4 = putB y 4) : x = y := by
  have e := congrArg getB h
  rw [getB_put, getB_put] at e
  omega
theorem hd_apart {v t b n v' t' b' n' : Nat} {A R A' R' : List UInt8} (hA : A.length = 32) (hR : R.length = 32) (hv : v < 4294967296) (ht : t < 4294967296) (hb : b < 4294967296) (hn : n < 4294967296)
    (hA' : A'.length = 32) (hR' : R'.length = 32) (hv' : v' < 4294967296) (ht' : t' < 4294967296) (hb' : b' < 4294967296) (hn' : n' < 4294967296) :
    (sameH v A R t b n v' A' R' t' b' n' == (hdB v A R t b n == hdB v' A' R' t' b' n')) = true := by
  have e : (hdB v A R t b n == hdB v' A' R' t' b' n') = sameH v A R t b n v' A' R' t' b' n' := by
    rw [Bool.eq_iff_iff, beq_iff_eq, sameH, decide_eq_true_iff]
    constructor
    · intro h
      unfold hdB at h
      obtain ⟨h, e6⟩ := List.append_inj' h (by rw [putB_length, putB_length])
      obtain ⟨h, e5⟩ := List.append_inj' h (by rw [putB_length, putB_length])
      obtain ⟨h, e4⟩ := List.append_inj' h (by rw [putB_length, putB_length])
      obtain ⟨h, e3⟩ := List.append_inj' h (by rw [hR, hR'])
      obtain ⟨e1, e2⟩ := List.append_inj' h (by rw [hA, hA'])
      exact ⟨putB4_inj hv hv' e1, e2, e3, putB4_inj ht ht' e4, putB4_inj hb hb' e5, putB4_inj hn hn' e6⟩
    · rintro ⟨rfl, rfl, rfl, rfl, rfl, rfl⟩
      rfl
  rw [e]
  exact beq_self_eq_true _
section
variable {H : Type} {enc : TypeId × Value → H} {P : Program} {w : World} {sp : Nat → Bool} {held : Bool}
theorem Lf.u32 {cs : List Value} {o : Nat} {t : TypeId} (ht : P.underlying t = some (.int .u32)) (h : Lf enc P w sp held cs o t) : ∃ n : Nat, cs[o]? = some (.int .u32 (n : Int)) ∧ n < 4294967296 := by
  obtain ⟨n, h1, h2⟩ := h.int ht
  simp [Lit.wf, IntKind.min, IntKind.max, IntKind.signed, IntKind.bits] at h2
  exact ⟨n.toNat, by rw [h1, Int.toNat_of_nonneg h2.1], by omega⟩
end
theorem open_head {cs : List Value} (hl : cs.length = 68) {v t b n : Nat} {f g : Nat → UInt8} (h0 : cs[0]? = some (.int .u32 (v : Int))) (hf : ∀ i, i < 32 → cs[1 + i]? = some (.int .u8 ((f i).toNat : Int))) (hg : ∀ i, i < 32 → cs[33 + i]? = some (.int .u8 ((g i).toNat : Int)))
    (ht : cs[65]? = some (.int .u32 (t : Int))) (hb : cs[66]? = some (.int .u32 (b : Int))) (hn : cs[67]? = some (.int .u32 (n : Int))) : cs = hdC v ((List.range 32).map f) ((List.range 32).map g) t b n := by
  have hA : ((List.range 32).map f).length = 32 := by simp
  have hR : ((List.range 32).map g).length = 32 := by simp
  have fun8 : ∀ (f : Nat → UInt8) (j : Nat), j < 32 → (by8 ((List.range 32).map f))[j]? = some (.int .u8 ((f j).toNat : Int)) := fun f j hj => by8_at (by rw [List.getElem?_map, List.getElem?_range hj]; rfl)
  refine List.ext_getElem? fun i => ?_
  by_cases h1 : i < 1
  · obtain rfl : i = 0 := by omega
    exact h0
  by_cases h2 : i < 33
  · obtain ⟨j, rfl⟩ : ∃ j, i = 1 + j := ⟨i - 1, by omega⟩
    rw [hf j (by omega), hdC, Nat.add_comm 1 j, List.getElem?_cons_succ, List.getElem?_append_left (by rw [by8_length, hA]; omega), fun8 f j (by omega)]
  by_cases h3 : i < 65
  · obtain ⟨j, rfl⟩ : ∃ j, i = 33 + j := ⟨i - 33, by omega⟩
    rw [hg j (by omega), hdC, show 33 + j = (32 + j) + 1 by omega, List.getElem?_cons_succ, List.getElem?_append_right (by rw [by8_length, hA]; omega), by8_length, hA, show 32 + j - 32 = j by omega, List.getElem?_append_left (by rw [by8_length, hR]; omega), fun8 g j (by omega)]
  by_cases h4 : i = 65
  · rw [h4, ht, hdC_t hA hR]
  by_cases h5 : i = 66
  · rw [h5, hb, hdC_b hA hR]
  by_cases h6 : i = 67
  · rw [h6, hn, hdC_n hA hR]
  rw [List.getElem?_eq_none (by omega), List.getElem?_eq_none (by rw [hdC_length hA hR]; omega)]
end Go.Proofs.Ytdepaaphgfapjaa
