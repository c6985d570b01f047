/- Texts of bytes: two signs a byte, the last byte first; what they tell again. Plain laws. -/
import Derived.Test.YtgmggjnoegelgaaOe
import Derived.Test.YtgmggjnoegelgaaRb
import Derived.Laws.Strings2
import Derived.Laws.Slices
namespace Go.Proofs.Ytgmggjnoegelgaa
open Go.RowKit
def signs : List UInt8 := [48, 49, 50, 51, 52, 53, 54, 55, 56, 57, 97, 98, 99, 100, 101, 102]
def sg (d : Nat) : UInt8 := signs.getD d 0
def hexOK (c : UInt8) : Bool := (decide (48 ≤ c.toNat) && decide (c.toNat ≤ 57)) || (decide (97 ≤ c.toNat) && decide (c.toNat ≤ 102))
def hexD (c : UInt8) : Nat := if c.toNat ≤ 57 then c.toNat - 48 else c.toNat - 87
def hexZ (c : UInt8) : Int := if hexOK c = true then ((hexD c : Nat) : Int) else -1
theorem all8 {f : UInt8 → Bool} (h : (List.range 256).all (fun n => f (UInt8.ofNat n)) = true) (c : UInt8) : f c = true := by
  have := List.all_eq_true.1 h c.toNat (List.mem_range.2 c.toNat_lt)
  simpa using this
theorem signs_at {d : Nat} (h : d < 16) : signs[d]? = some (sg d) := by
  rw [sg, List.getD_eq_getElem?_getD, List.getElem?_eq_getElem (show d < signs.length from h)]
  rfl
theorem hexD_lt {c : UInt8} (h : hexOK c = true) : hexD c < 16 := by
  simp only [hexOK, Bool.or_eq_true, Bool.and_eq_true, decide_eq_true_eq] at h
  unfold hexD
  split <;> omega
theorem hex_ascii {c : UInt8} (h : hexOK c = true) : c.toNat < 128 := by
  simp only [hexOK, Bool.or_eq_true, Bool.and_eq_true, decide_eq_true_eq] at h
  omega
theorem hexZ_neg {c : UInt8} (h : hexZ c < 0) : hexOK c = false := by
  unfold hexZ at h
  split at h
  · omega
  · cases hc : hexOK c with
    | false => rfl
    | true => exact absurd hc (by assumption)
theorem hexZ_pos {c : UInt8} (h : ¬ hexZ c < 0) : hexOK c = true ∧ hexZ c = ((hexD c : Nat) : Int) := by
  unfold hexZ at h ⊢
  split
  · exact ⟨by assumption, rfl⟩
  · rename_i hc
    rw [if_neg hc] at h
    exact absurd (by decide) h
theorem sg_hex {d : Nat} (h : d < 16) : hexOK (sg d) = true ∧ hexD (sg d) = d := by
  have : ∀ d : Fin 16, hexOK (sg d.val) = true ∧ hexD (sg d.val) = d.val := by decide
  exact this ⟨d, h⟩
theorem hex_find (c : UInt8) : ((List.range (strOf signs).size).find? fun i => (strOf signs)[i]! == c) = if hexOK c = true then some (hexD c) else none :=
  of_decide_eq_true (all8 (f := fun c => decide (((List.range (strOf signs).size).find? fun i => (strOf signs)[i]! == c) = if hexOK c = true then some (hexD c) else none)) (by kernel_rfl) c)
theorem u8_and15 (c : UInt8) : Go.bits .and .u8 (c.toNat : Int) 15 = ((c.toNat % 16 : Nat) : Int) :=
  of_decide_eq_true (all8 (f := fun c => decide (Go.bits .and .u8 (c.toNat : Int) 15 = ((c.toNat % 16 : Nat) : Int))) (by kernel_rfl) c)
theorem u8_quo16 (c : UInt8) : IntKind.u8.wrap (Int.tdiv (c.toNat : Int) 16) = ((c.toNat / 16 : Nat) : Int) :=
  of_decide_eq_true (all8 (f := fun c => decide (IntKind.u8.wrap (Int.tdiv (c.toNat : Int) 16) = ((c.toNat / 16 : Nat) : Int))) (by kernel_rfl) c)
theorem u8_mul16 (c : UInt8) : IntKind.u8.wrap ((c.toNat : Int) * 16) = ((c.toNat * 16 % 256 : Nat) : Int) :=
  of_decide_eq_true (all8 (f := fun c => decide (IntKind.u8.wrap ((c.toNat : Int) * 16) = ((c.toNat * 16 % 256 : Nat) : Int))) (by kernel_rfl) c)
/-- A byte moved up by a sign, and a sign more. -/
def nib (x : UInt8) (d : Nat) : UInt8 := UInt8.ofNat (x.toNat * 16 % 256 + d)
theorem nib_nat {x : UInt8} {d : Nat} (h : d < 16) : (nib x d).toNat = x.toNat * 16 % 256 + d := by
  rw [nib, u8_ofNat]
  omega
theorem u8_add16 {x : UInt8} {d : Nat} (h : d < 16) : IntKind.u8.wrap (((x.toNat * 16 % 256 : Nat) : Int) + (d : Int)) = (((nib x d).toNat : Nat) : Int) := by
  rw [nib_nat h, IntKind.wrap_u8]
  omega
theorem u8_or16 {x : UInt8} {d : Nat} (h : d < 16) : Go.bits .or .u8 ((x.toNat * 16 % 256 : Nat) : Int) (d : Int) = (((nib x d).toNat : Nat) : Int) := by
  rw [nib_nat h]
  have e : ∀ a : Fin 16, ∀ d : Fin 16, Go.bits .or .u8 ((a.val * 16 : Nat) : Int) ((d.val : Nat) : Int) = ((a.val * 16 + d.val : Nat) : Int) := by decide +kernel
  have hx : x.toNat * 16 % 256 = x.toNat % 16 * 16 := by omega
  rw [hx]
  exact e ⟨x.toNat % 16, Nat.mod_lt _ (by decide)⟩ ⟨d, h⟩
theorem nib_two {x : Nat} (h : x < 256) : nib (nib 0 (x / 16)) (x % 16) = UInt8.ofNat x := by
  have e1 := nib_nat (x := 0) (d := x / 16) (by omega)
  apply UInt8.toNat_inj.1
  rw [nib_nat (by omega), e1, u8_ofNat]
  show ((0 * 16 % 256 + x / 16) * 16 % 256 + x % 16) = _
  omega
section
variable {P : Program} {w0 w : World} {S : List Nat} {L : List Ent}
theorem run_strCut {t : TypeId} {k1 k2 : IntKind} {s : List UInt8} {l h : Nat} {r : List UInt8} (ht : isStr P t = true) (hlh : l ≤ h) (hh : h ≤ s.length) (hr : (s.drop l).take (h - l) = r) (w : World) :
    (Instr.sliceAt t (.string (strOf s)) (some (.int k1 (l : Int))) (some (.int k2 (h : Int))) none).run P w = .ok (.string (strOf r)) w := by
  rw [run_sliceAt_string (h := isStr_spec ht), run_slice_string (h := isStr_spec ht) (h0 := by omega) (h1 := by omega) (h2 := by rw [strOf_size]; omega), ← hr]
  rw [show (strOf s).extract (l : Int).toNat (h : Int).toNat = strOf ((s.drop l).take (h - l)) from ByteArray.extract_mk s _ _]
theorem Hp.strAny (H : Hp w0 S L w) (i : Nat) {k pos : Nat} {bs : List UInt8} {b : UInt8} (hL : L[i]? = some (.obj k (.stringIter (strOf bs) pos))) (hb : bs[pos]? = some b) (ty : TypeId) :
    ∃ (r wd : Nat) (w' : World), (Instr.next (.pointer (some ⟨k, 0, none⟩)) true ty).run P w = .ok (.tuple #[.bool true, .int .i64 (pos : Int), .int .i32 (r : Int)]) w' ∧ Hp w0 S (L.set i (.obj k (.stringIter (strOf bs) (pos + wd)))) w' ∧ (b.toNat < 128 → wd = 1) := by
  have ho := H.objAt i hL
  have hlt := (List.getElem?_eq_some_iff.1 hb).1
  have hsz : (strOf bs).size = bs.length := by simp [strOf, ByteArray.size]
  obtain ⟨d, hd⟩ : ∃ d, Utf8.decode (strOf bs) pos = d := ⟨_, rfl⟩
  refine ⟨d.1, d.2, w.putObj k (.stringIter (strOf bs) (pos + d.2)), ?_, H.putObj i _ hL, fun h8 => ?_⟩
  · simp [Instr.next, getObj, setObj, Sem.run, ho, hsz, hlt, hd, World.putObj, goInt]
  · rw [decode_plain hb h8] at hd
    rw [← hd]
theorem Hp.strEnd (H : Hp w0 S L w) (i : Nat) {k pos : Nat} {bs : List UInt8} (hL : L[i]? = some (.obj k (.stringIter (strOf bs) pos))) (hp : pos = bs.length) (ty : TypeId) :
    (Instr.next (.pointer (some ⟨k, 0, none⟩)) true ty).run P w = .ok (.tuple #[.bool false]) w := by
  subst hp
  exact H.strOver i hL ty
theorem run_idxBlk {t sz b o len cap j : Nat} {k : IntKind} (ht : slcOf P t = some sz) (hj : j < len) (w : World) : (Instr.indexAt t (.slice (some ⟨b, o, none⟩) len cap) (.int k (j : Int))).run P w = .ok (.pointer (some ⟨b, o + j * sz, none⟩)) w := by
  have h := run_idxSl (P := P) (w := w) (k := k) (t := t) (sz := sz) (a := ⟨b, o, none⟩) (len := len) (cap := cap) (j := j) ht rfl hj
  have hadd : (⟨b, o, none⟩ : Addr).add (j * sz) = ⟨b, o + j * sz, none⟩ := by unfold Addr.add; split <;> simp_all
  rw [hadd] at h
  exact h
end
/-! ### texts -/
/-- The first signs of a text: of the last bytes. -/
def hexP (X : List UInt8) : Nat → List UInt8
  | 0 => []
  | k + 1 => hexP X k ++ [sg ((X.getD (31 - k) 0).toNat / 16), sg ((X.getD (31 - k) 0).toNat % 16)]
theorem hexP_length (X : List UInt8) (k : Nat) : (hexP X k).length = 2 * k := by
  induction k with
  | zero => rfl
  | succ k ih => rw [hexP, List.length_append, ih]; rfl
def hexT (X : List UInt8) : List UInt8 := hexP X 32
/-- What is read of the first signs. -/
def pX (s : List UInt8) : Nat → List UInt8
  | 0 => List.replicate 32 0
  | k + 1 => (pX s k).set (k / 2) (nib ((pX s k).getD (k / 2) 0) (hexD (s.getD k 0)))
def rX (s : List UInt8) : Nat → List UInt8
  | 0 => List.replicate 32 0
  | k + 1 => (rX s k).set (31 - k / 2) (nib ((rX s k).getD (31 - k / 2) 0) (hexD (s.getD k 0)))
theorem pX_length (s : List UInt8) (k : Nat) : (pX s k).length = 32 := by
  induction k with
  | zero => rfl
  | succ k ih => rw [pX, List.length_set, ih]
theorem rX_length (s : List UInt8) (k : Nat) : (rX s k).length = 32 := by
  induction k with
  | zero => rfl
  | succ k ih => rw [rX, List.length_set, ih]
theorem getD_set8 {l : List UInt8} {i j : Nat} {v : UInt8} (hi : i < l.length) : (l.set i v).getD j 0 = if i = j then v else l.getD j 0 := by
  rw [List.getD_eq_getElem?_getD, List.getD_eq_getElem?_getD, List.getElem?_set]
  split
  · rename_i h
    first | (rw [if_pos (by omega)]; rfl) | rfl
  · rfl
theorem ext8 {a b : List UInt8} (h : a.length = b.length) (hg : ∀ i, i < a.length → a.getD i 0 = b.getD i 0) : a = b := by
  refine List.ext_getElem h fun i h1 h2 => ?_
  have := hg i h1
  rw [List.getD_eq_getElem?_getD, List.getD_eq_getElem?_getD, List.getElem?_eq_getElem h1, List.getElem?_eq_getElem h2] at this
  exact this
theorem rX_getD (s : List UInt8) (k : Nat) (hk : k ≤ 64) : ∀ j, j < 32 → (rX s k).getD j 0 = (pX s k).getD (31 - j) 0 := by
  induction k with
  | zero =>
    intro j hj
    show (List.replicate 32 (0 : UInt8)).getD j 0 = (List.replicate 32 0).getD (31 - j) 0
    rw [List.getD_eq_getElem?_getD, List.getD_eq_getElem?_getD, List.getElem?_replicate, List.getElem?_replicate, if_pos hj, if_pos (by omega)]
  | succ k ih =>
    intro j hj
    have ih := ih (by omega)
    rw [rX, pX, getD_set8 (by rw [rX_length]; omega), getD_set8 (by rw [pX_length]; omega), ih j hj, ih (31 - k / 2) (by omega), show 31 - (31 - k / 2) = k / 2 by omega]
    by_cases h : 31 - k / 2 = j
    · rw [if_pos h, if_pos (by omega)]
    · rw [if_neg h, if_neg (by omega)]
theorem getD_reverse8 {l : List UInt8} {j : Nat} (h : j < l.length) : l.reverse.getD j 0 = l.getD (l.length - 1 - j) 0 := by
  rw [List.getD_eq_getElem?_getD, List.getD_eq_getElem?_getD, List.getElem?_reverse h]
theorem rX_all (s : List UInt8) : rX s 64 = (pX s 64).reverse :=
  ext8 (by rw [rX_length, List.length_reverse, pX_length]) fun j hj => by
    rw [rX_length] at hj
    rw [rX_getD s 64 (Nat.le_refl _) j hj, getD_reverse8 (by rw [pX_length]; exact hj), pX_length]
/-- Does a text tell bytes; which; why not. -/
def okT (s : List UInt8) : Bool := decide (s.length = 64) && s.all hexOK
def parT (s : List UInt8) : List UInt8 := if okT s = true then (pX s 64).reverse else List.replicate 32 0
def parE (s : List UInt8) : Nat := if okT s = true then 0 else 2
theorem parT_length (s : List UInt8) : (parT s).length = 32 := by
  unfold parT
  split
  · rw [List.length_reverse, pX_length]
  · rfl
theorem okT_no {s : List UInt8} (h : s.length ≠ 64 ∨ ∃ k, k < s.length ∧ hexOK (s.getD k 0) = false) : okT s = false := by
  unfold okT
  rcases h with h | ⟨k, hk, h⟩
  · rw [decide_eq_false h]
    rfl
  · have : s.all hexOK = false := by
      rw [List.all_eq_false]
      refine ⟨s.getD k 0, ?_, by rw [h]; decide⟩
      rw [List.getD_eq_getElem?_getD, List.getElem?_eq_getElem hk]
      exact List.getElem_mem hk
    rw [this, Bool.and_false]
theorem par_no {s : List UInt8} (h : okT s = false) : parT s = List.replicate 32 0 ∧ parE s = 2 := by
  unfold parT parE
  rw [h]
  exact ⟨rfl, rfl⟩
theorem par_yes {s : List UInt8} (hl : s.length = 64) (ha : s.all hexOK = true) : okT s = true ∧ parT s = (pX s 64).reverse ∧ parE s = 0 := by
  have h : okT s = true := by rw [okT, ha, decide_eq_true hl]; rfl
  unfold parT parE
  rw [h]
  exact ⟨rfl, rfl, rfl⟩
theorem all_step {s : List UInt8} {k : Nat} (h : k < s.length) (ha : (s.take k).all hexOK = true) (hc : hexOK (s.getD k 0) = true) : (s.take (k + 1)).all hexOK = true := by
  rw [List.take_add_one, List.getElem?_eq_getElem h, List.all_append, ha]
  rw [List.getD_eq_getElem?_getD, List.getElem?_eq_getElem h] at hc
  simpa using hc
/-- A round's exchange. -/
def swP (X : List UInt8) (k : Nat) : List UInt8 := (List.range 32).map fun j => if j < k ∨ 31 - j < k then X.getD (31 - j) 0 else X.getD j 0
theorem swP_length (X : List UInt8) (k : Nat) : (swP X k).length = 32 := by rw [swP, List.length_map, List.length_range]
theorem swP_getD {X : List UInt8} {k j : Nat} (h : j < 32) : (swP X k).getD j 0 = if j < k ∨ 31 - j < k then X.getD (31 - j) 0 else X.getD j 0 := by
  rw [swP, List.getD_eq_getElem?_getD, List.getElem?_map, List.getElem?_range h]
  rfl
theorem swP_step {X : List UInt8} {k : Nat} (h : k < 31 - k) : ((swP X k).set k ((swP X k).getD (31 - k) 0)).set (31 - k) ((swP X k).getD k 0) = swP X (k + 1) :=
  ext8 (by rw [List.length_set, List.length_set, swP_length, swP_length]) fun j hj => by
    rw [List.length_set, List.length_set, swP_length] at hj
    rw [getD_set8 (by rw [List.length_set, swP_length]; omega), getD_set8 (by rw [swP_length]; omega), swP_getD hj, swP_getD hj, swP_getD (by omega), swP_getD (by omega), show 31 - (31 - k) = k by omega]
    by_cases h1 : 31 - k = j
    · subst h1
      rw [if_pos rfl, if_neg (by omega), if_pos (by omega)]
      congr 1
      omega
    · rw [if_neg h1]
      by_cases h2 : k = j
      · subst h2
        rw [if_pos rfl, if_neg (by omega), if_pos (by omega)]
      · rw [if_neg h2]
        by_cases h3 : j < k ∨ 31 - j < k
        · rw [if_pos h3, if_pos (by omega)]
        · rw [if_neg h3, if_neg (by omega)]
theorem swP_zero {X : List UInt8} (h : X.length = 32) : swP X 0 = X :=
  ext8 (by rw [swP_length, h]) fun j hj => by
    rw [swP_length] at hj
    rw [swP_getD hj, if_neg (by omega)]
theorem swP_all {X : List UInt8} (h : X.length = 32) : swP X 16 = X.reverse :=
  ext8 (by rw [swP_length, List.length_reverse, h]) fun j hj => by
    rw [swP_length] at hj
    rw [swP_getD hj, if_pos (by omega), getD_reverse8 (by rw [h]; exact hj), h]
/-! ### told, and read again -/
theorem hexP_getD (X : List UInt8) : ∀ (m j : Nat), j < m → (hexP X m).getD (2 * j) 0 = sg ((X.getD (31 - j) 0).toNat / 16) ∧ (hexP X m).getD (2 * j + 1) 0 = sg ((X.getD (31 - j) 0).toNat % 16)
  | 0, j, h => absurd h (by omega)
  | m + 1, j, h => by
    rw [hexP]
    by_cases h' : j < m
    · have g : ∀ q, q < 2 * m → (hexP X m ++ [sg ((X.getD (31 - m) 0).toNat / 16), sg ((X.getD (31 - m) 0).toNat % 16)]).getD q 0 = (hexP X m).getD q 0 := fun q hq => by
        rw [List.getD_eq_getElem?_getD, List.getD_eq_getElem?_getD, List.getElem?_append_left (by rw [hexP_length]; exact hq), ← List.getD_eq_getElem?_getD]
      rw [g _ (by omega), g _ (by omega)]
      exact hexP_getD X m j h'
    · obtain rfl : j = m := by omega
      constructor
      · rw [List.getD_eq_getElem?_getD, List.getElem?_append_right (by rw [hexP_length]; omega), hexP_length, Nat.sub_self]
        rfl
      · rw [List.getD_eq_getElem?_getD, List.getElem?_append_right (by rw [hexP_length]; omega), hexP_length, show 2 * j + 1 - 2 * j = 1 by omega]
        rfl
theorem hexP_ok (X : List UInt8) (k : Nat) : (hexP X k).all hexOK = true := by
  induction k with
  | zero => rfl
  | succ k ih =>
    have hx := (X.getD (31 - k) 0).toNat_lt
    rw [hexP, List.all_append, ih, List.all_cons, List.all_cons, (sg_hex (by omega)).1, (sg_hex (by omega)).1]
    rfl
theorem pX_two (X : List UInt8) (k : Nat) (hk : k ≤ 32) : ∀ j, j < 32 → (pX (hexT X) (2 * k)).getD j 0 = if j < k then X.getD (31 - j) 0 else 0 := by
  induction k with
  | zero =>
    intro j hj
    show (List.replicate 32 (0 : UInt8)).getD j 0 = _
    rw [List.getD_eq_getElem?_getD, List.getElem?_replicate, if_pos hj, if_neg (by omega)]
    rfl
  | succ k ih =>
    intro j hj
    have hx := (X.getD (31 - k) 0).toNat_lt
    obtain ⟨a, b⟩ := hexP_getD X 32 k (by omega)
    have e0 := ih (by omega) k (by omega)
    rw [if_neg (by omega)] at e0
    have e1 : (pX (hexT X) (2 * k + 1)).getD k 0 = nib 0 ((X.getD (31 - k) 0).toNat / 16) := by
      rw [pX, show 2 * k / 2 = k by omega, getD_set8 (by rw [pX_length]; omega), if_pos rfl, e0, hexT, a, (sg_hex (by omega)).2]
    rw [show 2 * (k + 1) = 2 * k + 1 + 1 by omega, pX, show (2 * k + 1) / 2 = k by omega, getD_set8 (by rw [pX_length]; omega)]
    by_cases h : k = j
    · subst h
      rw [if_pos rfl, if_pos (by omega), e1, hexT, b, (sg_hex (by omega)).2, nib_two hx]
      simp
    · rw [if_neg h, pX, show 2 * k / 2 = k by omega, getD_set8 (by rw [pX_length]; omega), if_neg h, ih (by omega) j hj]
      by_cases h' : j < k
      · rw [if_pos h', if_pos (by omega)]
      · rw [if_neg h', if_neg (by omega)]
/-- What is told is read again. -/
theorem parT_hexT {X : List UInt8} (h : X.length = 32) : parT (hexT X) = X ∧ parE (hexT X) = 0 := by
  obtain ⟨_, h1, h2⟩ := par_yes (s := hexT X) (hexP_length X 32) (hexP_ok X 32)
  refine ⟨?_, h2⟩
  rw [h1]
  have e : pX (hexT X) 64 = X.reverse := ext8 (by rw [pX_length, List.length_reverse, h]) fun j hj => by
    rw [pX_length] at hj
    rw [pX_two X 32 (Nat.le_refl _) j hj, if_pos hj, getD_reverse8 (by rw [h]; exact hj), h]
  rw [e, List.reverse_reverse]
end Go.Proofs.Ytgmggjnoegelgaa
