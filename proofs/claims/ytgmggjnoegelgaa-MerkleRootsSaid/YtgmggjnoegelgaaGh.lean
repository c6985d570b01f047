/- What a row's arguments are: each cell's leaf. Plain laws over any program. -/
import Derived.Test.YtgmggjnoegelgaaGg
import Derived.WalkKit
import Derived.ProofKit
import Derived.OpenShut
namespace Go.Proofs.Ytgmggjnoegelgaa
open Go.RowKit Go.ChangeShapes Go.WideShapes Go.ChangeAt

section
variable {H : Type} {enc : TypeId × Value → H} {P : Program} {w : World} {sp : Nat → Bool} {held : Bool}

/-- The leaves of a type, each with its place. -/
def lv (P : Program) : Nat → TypeId → Nat → List (Nat × TypeId)
  | 0, t, o => [(o, t)]
  | n + 1, t, o =>
    match P.underlying t with
    | some (.struct fs) => fs.toList.flatMap fun f => lv P n f.type (o + f.offset)
    | some (.array len e) => (List.range len).flatMap fun i => lv P n e (o + i * P.cellsOf e)
    | _ => [(o, t)]
/-- Each part lies within its whole. -/
def lvOk (P : Program) : Nat → TypeId → Bool
  | 0, _ => true
  | n + 1, t =>
    match P.underlying t with
    | some (.struct fs) => fs.toList.all fun f => decide (f.offset + P.cellsOf f.type ≤ P.cellsOf t) && lvOk P n f.type
    | some (.array len e) => decide (len * P.cellsOf e ≤ P.cellsOf t) && lvOk P n e
    | _ => true
theorem cut_cut {cs : List Value} {o k a b : Nat} (h : a + b ≤ k) : (((cs.drop o).take k).drop a).take b = (cs.drop (o + a)).take b := by
  rw [List.drop_take, List.take_take, List.drop_drop, Nat.min_eq_left (by omega)]
theorem trod_leaves (n : Nat) : ∀ (fuel : Nat) (t : TypeId) (o : Nat) (cs : List Value) (x : DataW H × List MemPlace), lvOk P n t = true →
    DataW.trod enc P w 0 sp held fuel t ((cs.drop o).take (P.cellsOf t)) = some x →
    ∀ p ∈ lv P n t o, ∃ m y, DataW.trod enc P w 0 sp held m p.2 ((cs.drop p.1).take (P.cellsOf p.2)) = some y := by
  induction n with
  | zero =>
    intro fuel t o cs x _ h p hp
    simp only [lv, List.mem_singleton] at hp
    subst hp
    exact ⟨_, _, h⟩
  | succ n ih =>
    intro fuel t o cs x hok h p hp
    unfold lv at hp
    unfold lvOk at hok
    split at hp
    · rename_i fs hu
      rw [hu] at hok
      obtain ⟨xs, m, _, _, _, hlen, hel⟩ := DataW.trod_struct hu h
      obtain ⟨f, hf, hp⟩ := List.mem_flatMap.1 hp
      obtain ⟨i, hi, hif⟩ := List.getElem_of_mem hf
      have h0 := List.all_eq_true.1 hok f hf
      simp only [Bool.and_eq_true, decide_eq_true_eq] at h0
      have h1 := hel i f (by rw [← hif]; simp)
      rw [cut_cut h0.1, List.getElem?_eq_getElem (by simp at hi; omega)] at h1
      exact ih m f.type _ cs _ h0.2 h1 p hp
    · rename_i len e hu
      rw [hu] at hok
      obtain ⟨xs, m, _, _, _, hlen, hel⟩ := DataW.trod_array hu h
      obtain ⟨i, hi, hp⟩ := List.mem_flatMap.1 hp
      simp only [Bool.and_eq_true, decide_eq_true_eq] at hok
      simp only [List.mem_range] at hi
      have h1 := hel i hi
      have hle : i * P.cellsOf e + P.cellsOf e ≤ P.cellsOf t := Nat.le_trans (by rw [← Nat.succ_mul]; exact Nat.mul_le_mul_right _ hi) hok.1
      rw [cut_cut hle, List.getElem?_eq_getElem (by omega)] at h1
      exact ih m e _ cs _ hok.2 h1 p hp
    · simp only [List.mem_singleton] at hp
      subst hp
      exact ⟨_, _, h⟩
/-- One cell, as its leaf. -/
def Lf (enc : TypeId × Value → H) (P : Program) (w : World) (sp : Nat → Bool) (held : Bool) (cs : List Value) (o : Nat) (t : TypeId) : Prop :=
  ∃ m y, DataW.trod enc P w 0 sp held m t ((cs.drop o).take (P.cellsOf t)) = some y
theorem open_leaves (n : Nat) {t : TypeId} {cs : List Value} {fuel : Nat} {x : DataW H × List MemPlace} (hlen : cs.length = P.cellsOf t) (hok : lvOk P n t = true) (h : DataW.trod enc P w 0 sp held fuel t cs = some x)
    {ls : List (Nat × TypeId)} (hl : lv P n t 0 = ls) : ∀ p ∈ ls, Lf enc P w sp held cs p.1 p.2 := by
  intro p hp
  subst hl
  refine trod_leaves n fuel t 0 cs x hok ?_ p hp
  rwa [List.drop_zero, ← hlen, List.take_length]
theorem one_cell {cs : List Value} {o k : Nat} {v : Value} (h : (cs.drop o).take k = [v]) : cs[o]? = some v := by
  have h1 : ((cs.drop o).take k)[0]? = some v := by rw [h]; rfl
  rw [List.getElem?_take] at h1
  split at h1
  · rw [List.getElem?_drop] at h1
    simpa using h1
  · cases h1
theorem Lf.int {cs : List Value} {o : Nat} {t : TypeId} {k : IntKind} (ht : P.underlying t = some (.int k)) (h : Lf enc P w sp held cs o t) : ∃ n, cs[o]? = some (.int k n) ∧ (Lit.int k n).wf = true := by
  obtain ⟨m, y, h⟩ := h
  obtain ⟨n, e, _, hw⟩ := DataW.trod_int ht h
  exact ⟨n, one_cell e, hw⟩
theorem u8_wf {n : Int} (h : (Lit.int .u8 n).wf = true) : n = ((UInt8.ofNat n.toNat).toNat : Int) := by
  simp [Lit.wf, IntKind.min, IntKind.max, IntKind.signed, IntKind.bits] at h
  rw [UInt8.toNat_ofNat']
  omega
theorem Lf.u8 {cs : List Value} {o : Nat} {t : TypeId} (ht : P.underlying t = some (.int .u8)) (h : Lf enc P w sp held cs o t) : ∃ b : UInt8, cs[o]? = some (.int .u8 (b.toNat : Int)) := by
  obtain ⟨n, h1, h2⟩ := h.int ht
  exact ⟨UInt8.ofNat n.toNat, by rw [h1]; exact congrArg (fun z => some (Value.int .u8 z)) (u8_wf h2)⟩
theorem Lf.u64 {cs : List Value} {o : Nat} {t : TypeId} (ht : P.underlying t = some (.int .u64)) (h : Lf enc P w sp held cs o t) : ∃ n : Nat, cs[o]? = some (.int .u64 (n : Int)) ∧ n < 2 ^ 64 := by
  obtain ⟨n, h1, h2⟩ := h.int ht
  simp [Lit.wf, IntKind.min, IntKind.max, IntKind.signed, IntKind.bits] at h2
  exact ⟨n.toNat, by rw [h1, Int.toNat_of_nonneg h2.1], by omega⟩
theorem Lf.bool {cs : List Value} {o : Nat} {t : TypeId} (ht : P.underlying t = some .bool) (h : Lf enc P w sp held cs o t) : ∃ b, cs[o]? = some (.bool b) := by
  obtain ⟨m, y, h⟩ := h
  cases m with
  | zero => simp [DataW.trod] at h
  | succ m =>
    unfold DataW.trod at h
    rw [ht] at h
    split at h <;> simp_all
    rename_i e
    rw [one_cell e]
    simp
theorem open_u8s {t e : TypeId} {fuel : Nat} {cs : List Value} {x : DataW H × List MemPlace} (ht : P.underlying t = some (.slice e)) (he : P.underlying e = some (.int .u8)) (hc : P.cellsOf e = 1)
    (h : DataW.trod enc P w 0 sp held fuel t cs = some x) : ∃ A bs c, cs = [.slice A bs.length c] ∧ RdS w A (by8 bs) ∧ bs.length ≤ c ∧ c ≤ maxLen := by
  rcases open_ints ht he hc h with ⟨rfl, _⟩ | ⟨a, len, cap, zs, rfl, _, hl, hm, hz, _, hcell, hwz⟩
  · exact ⟨none, [], 0, rfl, .inl rfl, Nat.le_refl _, Nat.zero_le _⟩
  · have hzl : len ≤ zs.length := by rw [hz]; split <;> omega
    refine ⟨some a, (zs.take len).map fun z => UInt8.ofNat z.toNat, cap, by simp [Nat.min_eq_left hzl], ?_, by simp [Nat.min_eq_left hzl]; omega, hm⟩
    have hx : by8 ((zs.take len).map fun z => UInt8.ofNat z.toNat) = (zs.take len).map fun z => Value.int .u8 z := by
      simp only [by8, List.map_map]
      refine List.map_congr_left fun z hz' => ?_
      have := u8_wf (hwz z (List.mem_of_mem_take hz'))
      simp only [Function.comp]
      rw [← this]
    rw [hx]
    by_cases h0 : len = 0
    · exact .inl (by simp [h0])
    · refine .inr ⟨a, rfl, ?_, fun j v hv => ?_⟩
      · have := hcell 0 (by omega)
        have h2 : (a.add 0) = a := by simp [Addr.add]
        rw [h2] at this
        simp only [World.cell?] at this
        split at this
        · rename_i hh
          exact (Array.getElem?_eq_some_iff.1 hh).1
        · cases this
      · have hj : j < len := by
          have := (List.getElem?_eq_some_iff.1 hv).1
          simp at this
          omega
        have h1 := hcell j (by omega)
        rw [h1]
        have hv' : some (Value.int .u8 (zs.getD j 0)) = ((zs.take len).map fun z => Value.int .u8 z)[j]? := by
          rw [List.getElem?_map, List.getElem?_take_of_lt hj, List.getD, List.getElem?_eq_getElem (by omega)]
          rfl
        rw [hv', hv]
theorem Lf.bytes {cs : List Value} {o : Nat} {t e : TypeId} (ht : P.underlying t = some (.slice e)) (he : P.underlying e = some (.int .u8)) (hc : P.cellsOf e = 1) (h : Lf enc P w sp held cs o t) :
    ∃ A bs c, cs[o]? = some (.slice A bs.length c) ∧ RdS w A (by8 bs) ∧ bs.length ≤ c ∧ c ≤ maxLen := by
  obtain ⟨m, y, h⟩ := h
  obtain ⟨A, bs, c, e1, h1, h2, h3⟩ := open_u8s ht he hc h
  exact ⟨A, bs, c, one_cell e1, h1, h2, h3⟩
theorem u64_nat {n : Int} (h : (Lit.int .u64 n).wf = true) : ∃ m : Nat, n = (m : Int) ∧ m < 18446744073709551616 := by
  simp [Lit.wf, IntKind.min, IntKind.max, IntKind.signed, IntKind.bits] at h
  exact ⟨n.toNat, by omega, by omega⟩
/-- So many bytes, all of them at once. -/
theorem bytes_of {cs : List Value} (n : Nat) (hlen : cs.length = n) (h : ∀ i, i < n → ∃ b : UInt8, cs[i]? = some (.int .u8 (b.toNat : Int))) :
    ∃ f : Nat → UInt8, cs = (List.range n).map fun i => .int .u8 ((f i).toNat : Int) := by
  obtain ⟨f, hf⟩ : ∃ f : Nat → UInt8, ∀ i, i < n → cs[i]? = some (.int .u8 ((f i).toNat : Int)) :=
    ⟨fun i => if hi : i < n then (h i hi).choose else 0, fun i hi => by simp only [dif_pos hi]; exact (h i hi).choose_spec⟩
  refine ⟨f, List.ext_getElem? fun i => ?_⟩
  by_cases hi : i < n
  · rw [hf i hi]
    simp [hi]
  · rw [List.getElem?_eq_none (by omega), List.getElem?_eq_none (by simp; omega)]
/-- A value argument of a type of many cells. -/
theorem open_agg {r : Reach} {b0 : Nat} {t : TypeId} {v : Value} {k : Nat} (hagg : (match P.underlying t with | some (.struct _) | some (.array _ _) => true | _ => false) = true) (hk : P.cellsOf t = k) (hv : Value.okWide P w r b0 t v) :
    ∃ cs : List Value, v = .agg cs.toArray ∧ cs.length = k := by
  unfold Value.okWide at hv
  split at hv
  · obtain ⟨cs, rfl, hc, _⟩ := hv
    exact ⟨cs.toList, rfl, by simpa using hc.trans hk⟩
  · obtain ⟨cs, rfl, hc, _⟩ := hv
    exact ⟨cs.toList, rfl, by simpa using hc.trans hk⟩
  · rename_i h1 h2
    split at hagg
    · exact absurd ‹_› (h1 _)
    · exact absurd ‹_› (h2 _ _)
    · cases hagg
theorem open_int' {r : Reach} {b0 : Nat} {t : TypeId} {k : IntKind} {v : Value} {d : DataW H} {p : List MemPlace} (ht : P.underlying t = some (.int k)) (hv : Value.okWide P w r b0 t v) (h : DataW.Trod enc P w 0 sp held t v d p) :
    ∃ n, v = .int k n ∧ (Lit.int k n).wf = true := by
  obtain ⟨x, e1, _, _, hw⟩ := open_int ht hv h
  exact ⟨x, e1, hw⟩
end
end Go.Proofs.Ytgmggjnoegelgaa
