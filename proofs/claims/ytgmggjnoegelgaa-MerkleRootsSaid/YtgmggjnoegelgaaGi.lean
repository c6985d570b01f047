/- Slices that came in: single cells, arrays out of them, cuts; blocks made as rows. Plain laws over any program. -/
import Derived.Test.YtgmggjnoegelgaaGg
namespace Go.Proofs.Ytgmggjnoegelgaa
open Go.RowKit

theorem u8_lt (b : UInt8) : b.toNat < 256 := UInt8.toNat_lt b
theorem u8_up_i64 (b : UInt8) : IntKind.i64.wrap (b.toNat : Int) = (b.toNat : Int) := in_i64 (by have := u8_lt b; omega)
theorem u8_up_u64 (b : UInt8) : IntKind.u64.wrap (b.toNat : Int) = (b.toNat : Int) := in_u64 (by have := u8_lt b; omega)
theorem u8_up_u32 (b : UInt8) : IntKind.u32.wrap (b.toNat : Int) = (b.toNat : Int) := in_u32 (by have := u8_lt b; omega)
section
variable {P : Program} {w0 w : World} {S : List Nat} {L : List Ent}
theorem run_idxRd {t len cap : Nat} {A : Option Addr} {k : IntKind} {i : Int} {j : Nat} {xs : List Value} (ht : slcOf P t = some 1) (hi : i = (j : Int)) (hr : RdS w A xs) (hx : xs.length = len) (hj : j < len) :
    (Instr.indexAt t (.slice A len cap) (.int k i)).run P w = .ok (.pointer (A.map (·.add j))) w := by
  obtain ⟨a, rfl, _⟩ := hr.cell (j := j) (List.getElem?_eq_getElem (by omega))
  rw [run_idxSl ht hi hj]
  simp
theorem run_ldRd {ty : TypeId} {A : Option Addr} {j : Nat} {v : Value} {xs : List Value} (hs : scal P ty = true) (hr : RdS w A xs) (hv : xs[j]? = some v) : (Instr.loadAt ty (.pointer (A.map (·.add j)))).run P w = .ok v w := by
  obtain ⟨a, rfl, h⟩ := hr.cell hv
  exact run_ld1 hs h
def arrLen (P : Program) (t : TypeId) : Option Nat :=
  match P.underlying t with
  | some (.array n _) => some n
  | _ => none
theorem run_s2a {t len cap n : Nat} {A : Option Addr} (ht : arrLen P t = some n) (hn : n ≤ len) : (Instr.arrayAt t (.slice A len cap)).run P w = .ok (.pointer A) w := by
  unfold arrLen at ht
  split at ht
  · rename_i m e hu
    injection ht with ht
    subst ht
    have : ¬ len < m := by omega
    simp [Instr.arrayAt, run_underlying hu, this]
  · cases ht
/-- An array out of a slice's first cells. -/
theorem run_ldArr {ty : TypeId} {m : Nat} {A : Option Addr} {xs : List Value} (hs : aggSz P ty = some m) (hr : RdS w A xs) (hl : xs.length = m) (hm : 0 < m) : (Instr.loadAt ty (.pointer A)).run P w = .ok (.agg xs.toArray) w := by
  obtain ⟨a, rfl, _⟩ := hr.cell (j := 0) (List.getElem?_eq_getElem (by omega))
  have h1 := hr.load (P := P) rfl
  rw [hl] at h1
  simp [Instr.loadAt, Instr.sureAddr, loadVar, run_isAgg_agg hs, run_sizeOf_agg hs, h1]
theorem by8_take (bs : List UInt8) (k : Nat) : (by8 bs).take k = by8 (bs.take k) := by simp [by8]
theorem by8_drop (bs : List UInt8) (k : Nat) : (by8 bs).drop k = by8 (bs.drop k) := by simp [by8]
theorem RdS.take8 {A : Option Addr} {bs cs : List UInt8} (h : RdS w A (by8 bs)) (k : Nat) (hc : bs.take k = cs) : RdS w A (by8 cs) := by
  have := h.take k
  rwa [by8_take, hc] at this
theorem RdS.cut8 {A : Option Addr} {bs cs : List UInt8} {cap : Nat} (h : RdS w A (by8 bs)) (l k : Nat) (hcap : bs.length ≤ cap) (hc : (bs.take k).drop l = cs) : RdS w (if cap = l then A else A.map (·.add l)) (by8 cs) := by
  have := (h.take k).drop (cap := cap) l (by rw [by8_take, by8_length, List.length_take]; omega)
  rwa [by8_take, by8_drop, hc] at this
theorem RdS.drop8 {A : Option Addr} {bs cs : List UInt8} {cap : Nat} (h : RdS w A (by8 bs)) (l : Nat) (hcap : bs.length ≤ cap) (hc : bs.drop l = cs) : RdS w (if cap = l then A else A.map (·.add l)) (by8 cs) := by
  have := h.drop (cap := cap) l (by rw [by8_length]; omega)
  rwa [by8_drop, hc] at this
theorem by8_at {bs : List UInt8} {j : Nat} {b : UInt8} (h : bs[j]? = some b) : (by8 bs)[j]? = some (.int .u8 (b.toNat : Int)) := by rw [by8_get, h]; rfl
/-- A block made by one operation, as a slice that grows. -/
theorem Hp.madeRow (H : Hp w0 S L w) (s : Sem Value) (f : Nat → Value) (cs : List Value) (t n c sz : Nat) (hs : nev P s = some (.cells cs.toArray t, fun r => some (f r))) (hn : n ≤ c) (hc : c ≤ maxLen) (hsz : cs.length = c * sz) :
    ∃ b w', s.run P w = .ok (f b) w' ∧ Hp w0 S (L ++ [.row (some ⟨b, 0, none⟩) n c t sz (cs.take (n * sz))]) w' :=
  ⟨w.heap.size, _, nev_run hs w _ rfl, Hp.blkRow (H.new cs t) (heap_alloc_new w _) hn hc hsz⟩
/-- A slice held against nil. -/
theorem run_sl_nil {t n c sz : Nat} {A : Option Addr} (ht : slcOf P t = some sz) (w : World) : (binOp .eql t (.slice A n c) (.slice none 0 0)).run P w = .ok (.bool A.isNone) w := by
  obtain ⟨e, hu, _⟩ := slcOf_spec ht
  have h : (Op.equalIn (9999 + 1) t (.slice A n c) (.slice none 0 0)).run P w = .ok A.isNone w := by
    unfold Op.equalIn
    cases A <;> simp [run_underlying hu]
  show (do pure (.bool (← Op.equalIn (9999 + 1) t (.slice A n c) (.slice none 0 0))) : Sem Value).run P w = _
  simp only [Sem.run_bind, h, Result.andThen_ok, Sem.run_pure]
/-! ### rows: what is written into them -/
theorem Hp.rowLe (H : Hp w0 S L w) (i : Nat) {A : Option Addr} {n c e sz : Nat} {xs : List Value} (hL : L[i]? = some (.row A n c e sz xs)) : n ≤ c ∧ xs.length = n * sz ∧ c ≤ maxLen := by
  have h := H.rowAt i hL
  rcases h.2 with ⟨h0, hn⟩ | ⟨g, cap, cur, hv, _, hh, hnc, hm, hsz, ht⟩
  · refine ⟨by omega, h.1, ?_⟩
    injection h0 with _ _ hc
    subst hc
    exact Nat.zero_le _
  · injection hv with _ _ hc
    subst hc
    exact ⟨hnc, h.1, hm⟩
theorem Hp.rdRowN (H : Hp w0 S L w) (i : Nat) {A : Option Addr} {n c e sz : Nat} {xs : List Value} (hL : L[i]? = some (.row A n c e sz xs)) : RdS w A xs := by
  have h := H.rowAt i hL
  rcases h.2 with ⟨h0, hn⟩ | ⟨g, cap, cur, hv, _, hh, hnc, _, hsz, ht⟩
  · left
    have := h.1
    rw [hn, Nat.zero_mul] at this
    exact List.eq_nil_of_length_eq_zero this
  · injection hv with hA
    subst hA
    refine .inr ⟨_, rfl, (Array.getElem?_eq_some_iff.1 hh).1, fun j v hv => ?_⟩
    rw [addr_add]
    have hj : j < n * sz := by
      have := (List.getElem?_eq_some_iff.1 hv).1
      have := h.1
      omega
    rw [← ht, List.getElem?_take_of_lt (by omega)] at hv
    simp only [World.cell?, hh]
    simpa using hv
/-- A cell of a row is written. -/
theorem Hp.stRow (H : Hp w0 S L w) (i : Nat) {A : Option Addr} {n c e sz q ty : Nat} {xs : List Value} {v : Value} (hL : L[i]? = some (.row A n c e sz xs)) (hs : scal P ty = true) (hq : q < xs.length) (h1 : v.oneCell' = true) :
    ∃ w', (Instr.storeAt ty (.pointer (A.map (·.add q))) v).run P w = .ok () w' ∧ Hp w0 S (L.set i (.row A n c e sz (xs.set q v))) w' := by
  have h := H.rowAt i hL
  rcases h.2 with ⟨h0, hn⟩ | ⟨g, cap, cur, hv, hbase, hh, hnc, hm, hsz, ht⟩
  · have := h.1
    rw [hn, Nat.zero_mul] at this
    omega
  · injection hv with hA _ hc
    subst hA
    have hql : q < n * sz := by rw [← h.1]; exact hq
    have hle : n * sz ≤ cap * sz := Nat.mul_le_mul_right _ hnc
    refine ⟨w.setCell ⟨g, q, none⟩ v, ?_, ?_⟩
    · have hcl : v.cells = #[v] := by cases v <;> simp_all [Value.cells, Value.oneCell']
      have hcc : w.cell? ⟨g, q, none⟩ = some xs[q] := by
        have h2 : xs[q]? = some xs[q] := List.getElem?_eq_getElem hq
        have h3 : w.cell? ⟨g, q, none⟩ = cur.toList[q]? := by simp [World.cell?, hh]
        rw [h3, ← h2, ← ht, List.getElem?_take_of_lt hql]
      have hfz : w.frozen? ⟨g, q, none⟩ = false := by simp [World.frozen?, hh]
      have hadd : (⟨g, 0, none⟩ : Addr).add q = ⟨g, q, none⟩ := by rw [addr_add]; simp
      have hadd0 : (⟨g, q, none⟩ : Addr).add 0 = ⟨g, q, none⟩ := rfl
      simp [Instr.storeAt, Instr.sureAddr, storeVar, run_sizeOf_scal hs, hcl, storeCells, hadd, hadd0, run_store P w _ v _ h1, hcc, hfz]
    · refine H.turn i hL rfl ?_ rfl rfl rfl (by simp [World.setCell]) (fun k _ hk => Below.heap_setCell w _ v k (by simpa [Ent.ids] using hk))
      refine ⟨by rw [List.length_set]; exact h.1, .inr ⟨g, cap, cur.set! q v, by rw [hc], hbase, ?_, by omega, hm, by simpa using hsz, ?_⟩⟩
      · simp [World.setCell, Array.getElem?_modify, hh]
      · rw [← ht]
        simp [List.take_set]
theorem by8_set (bs : List UInt8) (j : Nat) (b : UInt8) : (by8 bs).set j (.int .u8 (b.toNat : Int)) = by8 (bs.set j b) := by simp [by8, List.map_set]
end
end Go.Proofs.Ytgmggjnoegelgaa
