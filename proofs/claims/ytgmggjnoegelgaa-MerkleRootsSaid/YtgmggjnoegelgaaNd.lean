/- Slices whose elements are structs of several cells: read, opened. Plain laws over any program. -/
import Derived.Test.YtgmggjnoegelgaaNc
import Derived.Test.YtgmggjnoegelgaaGh
import Derived.Deep.Slices
namespace Go.Proofs.Ytgmggjnoegelgaa
open Go.RowKit Go.ChangeShapes Go.WideShapes Go.ChangeAt

section
variable {P : Program} {w : World}
theorem run_idxRdN {t sz len cap : Nat} {A : Option Addr} {k : IntKind} {i : Int} {j : Nat} {xs : List Value} (ht : slcOf P t = some sz) (hi : i = (j : Int)) (hr : RdS w A xs) (hx : xs.length = len * sz) (hsz : 0 < sz) (hj : j < len) :
    (Instr.indexAt t (.slice A len cap) (.int k i)).run P w = .ok (.pointer (A.map (·.add (j * sz)))) w := by
  have hlt : j * sz < xs.length := by rw [hx]; exact Nat.mul_lt_mul_of_pos_right hj hsz
  obtain ⟨a, rfl, _⟩ := hr.cell (j := j * sz) (List.getElem?_eq_getElem hlt)
  rw [run_idxSl ht hi hj]
  simp
theorem run_ldRdA {ty m o : Nat} {A : Option Addr} {xs sub : List Value} (hs : aggSz P ty = some m) (hr : RdS w A xs) (hsub : (xs.drop o).take m = sub) (hl : sub.length = m) (hm : 0 < m) :
    (Instr.loadAt ty (.pointer (A.map (·.add o)))).run P w = .ok (.agg sub.toArray) w := by
  have hget : ∀ j, j < m → xs[o + j]? = sub[j]? := by
    intro j hj
    rw [← hsub, List.getElem?_take_of_lt hj, List.getElem?_drop]
  have h0 : xs[o]? = some sub[0] := by
    have := hget 0 hm
    rw [Nat.add_zero] at this
    rw [this, List.getElem?_eq_getElem (by omega)]
  obtain ⟨a, rfl, _⟩ := hr.cell h0
  have h1 : (loadCells (a.add o) sub.length).run P w = .ok sub.toArray w := by
    refine run_loadCells_list (P := P) w (a.add o) sub (fun j v hv => ?_)
    have hj : j < m := by
      rw [← hl]
      exact (List.getElem?_eq_some_iff.1 hv).1
    obtain ⟨a', ha', hc⟩ := hr.cell ((hget j hj).trans hv)
    injection ha' with ha'
    subst ha'
    rw [add_add]
    exact hc
  rw [hl] at h1
  simp [Instr.loadAt, Instr.sureAddr, loadVar, run_isAgg_agg hs, run_sizeOf_agg hs, h1]
end

section
variable {H : Type} {enc : TypeId × Value → H} {P : Program} {w : World} {sp : Nat → Bool} {held : Bool}
/-- A slice of elements of sz cells. -/
theorem open_structs {t e : TypeId} {fuel : Nat} {cs : List Value} {x : DataW H × List MemPlace} (sz : Nat) (ht : P.underlying t = some (.slice e)) (hc : P.cellsOf e = sz) (hsz : 0 < sz) (h : DataW.trod enc P w 0 sp held fuel t cs = some x) :
    ∃ (A : Option Addr) (n c : Nat) (xs : List Value), cs = [.slice A n c] ∧ RdS w A xs ∧ xs.length = n * sz ∧ n ≤ c ∧ c ≤ maxLen ∧ ∀ i, i < n → ((xs.drop (i * sz)).take sz).length = sz ∧ ∃ m y, DataW.trod enc P w 0 sp held m e ((xs.drop (i * sz)).take sz) = some y := by
  rcases Go.Deep.open_slice ht h with ⟨rfl, _⟩ | ⟨a, len, cap, m, nf, D, Pl, rfl, _, hl, hm, hmm, _, hx⟩
  · exact ⟨none, 0, 0, [], rfl, .inl rfl, by simp, Nat.le_refl _, Nat.zero_le _, fun i hi => by omega⟩
  · rw [hc] at hx
    have hle : len ≤ m := by rw [hmm]; split <;> omega
    have hC : ∀ i, ∃ cs' : List Value, i < len → (w.cells? 0 (a.add (i * sz)) sz = some cs' ∧ DataW.trod enc P w 0 sp held nf e cs' = some (D i, Pl i)) := by
      intro i
      by_cases hi : i < len
      · obtain ⟨cs', h1, h2⟩ := hx i (by omega)
        exact ⟨cs', fun _ => ⟨h1, h2⟩⟩
      · exact ⟨[], fun hh => absurd hh hi⟩
    let E : Nat → List Value := fun i => Classical.choose (hC i)
    have hE : ∀ i, i < len → w.cells? 0 (a.add (i * sz)) sz = some (E i) ∧ DataW.trod enc P w 0 sp held nf e (E i) = some (D i, Pl i) := fun i => Classical.choose_spec (hC i)
    have hEl : ∀ i, i < len → (E i).length = sz ∧ ∀ r v, (E i)[r]? = some v → w.cell? ((a.add (i * sz)).add r) = some v := by
      intro i hi
      obtain ⟨_, h1, h2⟩ := World.cells?_some (hE i hi).1
      refine ⟨h1, fun r v hv => ?_⟩
      have hr : r < sz := by rw [← h1]; exact (List.getElem?_eq_some_iff.1 hv).1
      have := h2 r hr
      rw [this, ← hv]
    refine ⟨some a, len, cap, (List.range (len * sz)).map fun j => ((E (j / sz))[j % sz]?).getD undef, rfl, ?_, by simp, hl, hm, fun i hi => ?_⟩
    · by_cases h0 : len = 0
      · exact .inl (by simp [h0])
      · have hcell : ∀ j v, ((List.range (len * sz)).map fun j => ((E (j / sz))[j % sz]?).getD undef)[j]? = some v → w.cell? (a.add j) = some v := by
          intro j v hv
          have hj : j < len * sz := by
            have := (List.getElem?_eq_some_iff.1 hv).1
            simpa using this
          simp [hj] at hv
          have hq : j / sz < len := Nat.div_lt_of_lt_mul (by rw [Nat.mul_comm]; exact hj)
          have hr : j % sz < sz := Nat.mod_lt _ hsz
          obtain ⟨h1, h2⟩ := hEl _ hq
          have h3 : (E (j / sz))[j % sz]? = some v := by rw [List.getElem?_eq_getElem (by omega)] at hv ⊢; simpa using hv
          have h4 := h2 _ _ h3
          rwa [add_add, Nat.div_add_mod'] at h4
        refine .inr ⟨a, rfl, ?_, hcell⟩
        have hpos : 0 < len * sz := Nat.mul_pos (by omega) hsz
        have h1 := hcell 0 _ (List.getElem?_eq_getElem (by simpa using hpos))
        have h2 := block_lt_of_cell h1
        rwa [add_block] at h2
    · have hEi := hEl i hi
      have e1 : (((List.range (len * sz)).map fun j => ((E (j / sz))[j % sz]?).getD undef).drop (i * sz)).take sz = E i := by
        refine List.ext_getElem? (fun r => ?_)
        by_cases hr : r < sz
        · have hlt : i * sz + r < len * sz := by
            have := Nat.mul_le_mul_right sz (show i + 1 ≤ len by omega)
            rw [Nat.add_mul, Nat.one_mul] at this
            omega
          rw [List.getElem?_take_of_lt hr, List.getElem?_drop]
          have hd : (i * sz + r) / sz = i := by rw [Nat.mul_comm, Nat.mul_add_div hsz, Nat.div_eq_of_lt hr, Nat.add_zero]
          have hmo : (i * sz + r) % sz = r := by rw [Nat.mul_comm, Nat.mul_add_mod, Nat.mod_eq_of_lt hr]
          simp [hlt, hd, hmo]
          rw [List.getElem?_eq_getElem (by omega)]
          rfl
        · rw [List.getElem?_eq_none (by simp; omega), List.getElem?_eq_none (by omega)]
      rw [e1]
      exact ⟨hEi.1, nf, _, (hE i hi).2⟩
theorem three_of {cs : List Value} {a b c : Value} (hl : cs.length = 3) (h0 : cs[0]? = some a) (h1 : cs[1]? = some b) (h2 : cs[2]? = some c) : cs = [a, b, c] := by
  match cs, hl with
  | [x, y, z], _ =>
    simp at h0 h1 h2
    rw [h0, h1, h2]
/-- Elements of a whole number and two words. -/
theorem open_iuu {t e e1 e2 e3 : TypeId} {fuel : Nat} {cs : List Value} {x : DataW H × List MemPlace} (ht : P.underlying t = some (.slice e)) (hc : P.cellsOf e = 3) (hok : lvOk P 1 e = true) (hls : lv P 1 e 0 = [(0, e1), (1, e2), (2, e3)])
    (h1 : P.underlying e1 = some (.int .i64)) (h2 : P.underlying e2 = some (.int .u64)) (h3 : P.underlying e3 = some (.int .u64)) (h : DataW.trod enc P w 0 sp held fuel t cs = some x) :
    ∃ (A : Option Addr) (n c : Nat) (xs : List Value) (k : Nat → Int) (f g : Nat → Nat), cs = [.slice A n c] ∧ RdS w A xs ∧ xs.length = n * 3 ∧ n ≤ c ∧ c ≤ maxLen ∧ (∀ i, f i < 2 ^ 64) ∧ (∀ i, g i < 2 ^ 64) ∧
      ∀ i, i < n → (xs.drop (i * 3)).take 3 = [.int .i64 (k i), .int .u64 ((f i : Nat) : Int), .int .u64 ((g i : Nat) : Int)] := by
  obtain ⟨A, n, c, xs, rfl, hr, hl, hnc, hcm, hel⟩ := open_structs 3 ht hc (by decide) h
  have hC : ∀ i, ∃ p : Int × Nat × Nat, p.2.1 < 2 ^ 64 ∧ p.2.2 < 2 ^ 64 ∧ (i < n → (xs.drop (i * 3)).take 3 = [.int .i64 p.1, .int .u64 ((p.2.1 : Nat) : Int), .int .u64 ((p.2.2 : Nat) : Int)]) := by
    intro i
    by_cases hi : i < n
    · obtain ⟨hl3, m, y, hy⟩ := hel i hi
      have hlv := open_leaves 1 (by rw [hc]; exact hl3) hok hy hls
      obtain ⟨z, g1, _⟩ := (hlv (0, e1) (by simp)).int h1
      obtain ⟨p, g2, l2⟩ := (hlv (1, e2) (by simp)).u64 h2
      obtain ⟨q, g3, l3⟩ := (hlv (2, e3) (by simp)).u64 h3
      exact ⟨(z, p, q), l2, l3, fun _ => three_of hl3 g1 g2 g3⟩
    · exact ⟨(0, 0, 0), by decide, by decide, fun hh => absurd hh hi⟩
  exact ⟨A, n, c, xs, fun i => (Classical.choose (hC i)).1, fun i => (Classical.choose (hC i)).2.1, fun i => (Classical.choose (hC i)).2.2, rfl, hr, hl, hnc, hcm,
    fun i => (Classical.choose_spec (hC i)).1, fun i => (Classical.choose_spec (hC i)).2.1, fun i hi => (Classical.choose_spec (hC i)).2.2 hi⟩
/-- Elements of three words. -/
theorem open_uuu {t e e1 e2 e3 : TypeId} {fuel : Nat} {cs : List Value} {x : DataW H × List MemPlace} (ht : P.underlying t = some (.slice e)) (hc : P.cellsOf e = 3) (hok : lvOk P 1 e = true) (hls : lv P 1 e 0 = [(0, e1), (1, e2), (2, e3)])
    (h1 : P.underlying e1 = some (.int .u64)) (h2 : P.underlying e2 = some (.int .u64)) (h3 : P.underlying e3 = some (.int .u64)) (h : DataW.trod enc P w 0 sp held fuel t cs = some x) :
    ∃ (A : Option Addr) (n c : Nat) (xs : List Value) (k f g : Nat → Nat), cs = [.slice A n c] ∧ RdS w A xs ∧ xs.length = n * 3 ∧ n ≤ c ∧ c ≤ maxLen ∧ (∀ i, k i < 2 ^ 64) ∧ (∀ i, f i < 2 ^ 64) ∧ (∀ i, g i < 2 ^ 64) ∧
      ∀ i, i < n → (xs.drop (i * 3)).take 3 = [.int .u64 ((k i : Nat) : Int), .int .u64 ((f i : Nat) : Int), .int .u64 ((g i : Nat) : Int)] := by
  obtain ⟨A, n, c, xs, rfl, hr, hl, hnc, hcm, hel⟩ := open_structs 3 ht hc (by decide) h
  have hC : ∀ i, ∃ p : Nat × Nat × Nat, p.1 < 2 ^ 64 ∧ p.2.1 < 2 ^ 64 ∧ p.2.2 < 2 ^ 64 ∧ (i < n → (xs.drop (i * 3)).take 3 = [.int .u64 ((p.1 : Nat) : Int), .int .u64 ((p.2.1 : Nat) : Int), .int .u64 ((p.2.2 : Nat) : Int)]) := by
    intro i
    by_cases hi : i < n
    · obtain ⟨hl3, m, y, hy⟩ := hel i hi
      have hlv := open_leaves 1 (by rw [hc]; exact hl3) hok hy hls
      obtain ⟨z, g1, l1⟩ := (hlv (0, e1) (by simp)).u64 h1
      obtain ⟨p, g2, l2⟩ := (hlv (1, e2) (by simp)).u64 h2
      obtain ⟨q, g3, l3⟩ := (hlv (2, e3) (by simp)).u64 h3
      exact ⟨(z, p, q), l1, l2, l3, fun _ => three_of hl3 g1 g2 g3⟩
    · exact ⟨(0, 0, 0), by decide, by decide, by decide, fun hh => absurd hh hi⟩
  exact ⟨A, n, c, xs, fun i => (Classical.choose (hC i)).1, fun i => (Classical.choose (hC i)).2.1, fun i => (Classical.choose (hC i)).2.2, rfl, hr, hl, hnc, hcm,
    fun i => (Classical.choose_spec (hC i)).1, fun i => (Classical.choose_spec (hC i)).2.1, fun i => (Classical.choose_spec (hC i)).2.2.1, fun i hi => (Classical.choose_spec (hC i)).2.2.2 hi⟩
end
end Go.Proofs.Ytgmggjnoegelgaa
