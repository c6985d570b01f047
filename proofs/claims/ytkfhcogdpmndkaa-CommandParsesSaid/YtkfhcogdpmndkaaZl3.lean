/- Part 3 of what commandParses_proved stands on. -/
import Derived.Test.YtkfhcogdpmndkaaZl2
set_option linter.unusedVariables false
namespace Go.Proofs.Ytkfhcogdpmndkaa
open Go.RowKit
section
variable {P : Program} {w0 w : World} {S : List Nat} {L : List Ent}
theorem run_idxBlk {t sz b o len cap j : Nat} {k : IntKind} (ht : slcOf P t = some sz) (hj : j < len) (w : World) : (Instr.indexAt t (.slice (some ⟨b, o, none⟩) len cap) (.int k (j : Int))).run P w = .ok (.pointer (some ⟨b, o + j * sz, none⟩)) w := by
  have h := run_idxSl (P := P) (w := w) (k := k) (t := t) (sz := sz) (a := ⟨b, o, none⟩) (len := len) (cap := cap) (j := j) ht rfl hj
  have hadd : (⟨b, o, none⟩ : Addr).add (j * sz) = ⟨b, o + j * sz, none⟩ := by unfold Addr.add; split <;> simp_all
  rw [hadd] at h
  exact h
end
end Go.Proofs.Ytkfhcogdpmndkaa
namespace Go.Proofs.Ytkfhcogdpmndkaa
open Go.RowKit
theorem strCells_of (bs : List UInt8) : Lib.strCells (strOf bs) = by8 bs := by
  unfold Lib.strCells by8
  rfl
def u8Row (P : Program) (t : TypeId) : Option TypeId :=
  match P.underlying t with
  | some (.slice e) => match P.info? e with
    | some i => match i.zero with
      | some (.int .u8 n) => if n = 0 ∧ i.size = 1 ∧ i.bytes = 1 then some e else none
      | _ => none
    | none => none
  | _ => none
theorem u8Row_spec {P : Program} {t e : TypeId} (h : u8Row P t = some e) : ∃ i, P.underlying t = some (.slice e) ∧ P.info? e = some i ∧ i.zero = some (.int .u8 0) ∧ i.size = 1 ∧ i.bytes = 1 := by
  unfold u8Row at h
  split at h
  · rename_i e' he
    split at h
    · rename_i i hi
      split at h
      · rename_i n hz
        split at h
        · rename_i hc
          injection h with h
          subst h
          obtain ⟨rfl, h1, h2⟩ := hc
          exact ⟨i, he, hi, hz, h1, h2⟩
        · cases h
      · cases h
    · cases h
  · cases h
section
variable {P : Program} {w0 w : World} {S : List Nat} {L : List Ent}
theorem Hp.appendStr (H : Hp w0 S L w) (i : Nat) {A : Option Addr} {n c t u ty e : Nat} {xs : List Value} (bs : List UInt8) (hL : L[i]? = some (.row A n c e 1 xs)) (ht : u8Row P t = some e) (hu : isStr P u = true) (hb : n + bs.length ≤ 140737488355328) :
    ∃ A' c' w', (Builtin.append_ #[t, u] ty #[.slice A n c, .string (strOf bs)]).run P w = .ok (.slice A' (n + bs.length) c') w' ∧ Hp w0 S (L.set i (.row A' (n + bs.length) c' e 1 (xs ++ by8 bs))) w' := by
  obtain ⟨inf, hut, hi, hz, hsz, hby⟩ := u8Row_spec ht
  have hown := H.rowAt i hL
  have h63 : n + bs.length ≤ maxLen := by simp only [maxLen]; omega
  have hus := isStr_spec hu
  obtain ⟨v', w', hrun, hown', hg, hnil⟩ := Lib.run_append_own_string (P := P) w 0 t u ty e inf hut hus hi hz hsz hby (.slice A n c) n xs hown (strOf bs) (by rw [strOf_size]; exact h63) (by rw [strOf_size]; exact hb) (Nat.zero_le _)
  have hat : v'.ownBlock = (Value.slice A n c).ownBlock ∨ v'.ownBlock = some w.heap.size := by
    rcases hown.2 with ⟨h0, hn⟩ | ⟨g, cap, cur, hv, _, hh, hnc, hcm, hcs, hx⟩
    · by_cases h : (strOf bs).size = 0
      · left
        rw [hnil.2 ⟨h0, h⟩, h0]
      · right
        have hr := run_append_nil_string (P := P) w t u ty e inf (.int .u8 0) hut hus hi hz (strOf bs) (by omega) (by rw [strOf_size]; omega) (by rw [strOf_size, hby]; omega)
        rw [h0, hr] at hrun
        injection hrun with h1
        rw [← h1]
        rfl
    · by_cases hroom : n + (strOf bs).size ≤ cap
      · left
        have hcs' : cur.size = cap := by simpa using hcs
        have hr := Lib.run_append_room_string (P := P) w t u ty e inf hut hus hi hsz g n cap cur hh (strOf bs) hroom (by omega)
        rw [hv, hr] at hrun
        injection hrun with h1
        rw [← h1, hv]
        rfl
      · right
        have hxl : xs.length = n := by simpa using hown.1
        have holds : ∀ j u, xs[j]? = some u → w.cell? ((⟨g, 0, none⟩ : Addr).add j) = some u := by
          have ho := hown
          rw [hv] at ho
          exact ho.cells (g := g) rfl
        have hr := Lib.run_append_grow_string (P := P) w t u ty e inf (.int .u8 0) hut hus hi hz ⟨g, 0, none⟩ n cap xs (by rw [hsz]; simpa using hxl) holds (strOf bs) (by omega) (by rw [strOf_size]; omega) (by rw [hby]; exact growslice_fits (by omega) (by rw [strOf_size]; omega))
        rw [hv, hr] at hrun
        injection hrun with h1
        rw [← h1]
        rfl
  rw [strOf_size, strCells_of] at hown'
  obtain ⟨A', c', rfl⟩ := row_shape hown'
  refine ⟨A', c', w', hrun, H.turnNew i hL ?_ own_ids hown' hg.os hg.tape hg.output hg.size ?_⟩
  · intro k hk
    have hk' : (Value.slice A' (n + bs.length) c').ownBlock = some k := by
      cases A' with
      | none => simp [Ent.ids] at hk
      | some a' => simp [Ent.ids] at hk; simp [Value.ownBlock, hk]
    rcases hat with hat | hat
    · rw [hat] at hk'
      left
      cases A with
      | none => simp [Value.ownBlock] at hk'
      | some a0 => simp [Value.ownBlock] at hk'; simp [Ent.ids, hk']
    · rw [hat] at hk'
      injection hk' with hk'
      right
      omega
  · intro k hk hke
    refine hg.block k hk (fun h => hke ?_)
    cases A with
    | none => simp [Value.ownBlock] at h
    | some a0 => simp [Value.ownBlock] at h; simp [Ent.ids, h]
end
section
variable {P : Program} {ops : Array Oper} {Q : Exit → Act → World → Prop} {i n : Nat} {M : FM} {w : World}
theorem G.againSB {id : Nat} {X : Type} {Mx : X → FM} {J : X → World → Prop} {μ : X → Nat} {x : X} {Q' : Exit → Act → World → Prop} (x' : X) (ts : List Nat) (hp : pick ts M = some (Mx x')) (hμ : μ x' < μ x) (hJ : J x' w) :
    G P .skip (Exit.inBlock id (Exit.then (Again n Mx J μ x) Q')) n M w := fun F hF hM => wp_skip (⟨x', hμ, hJ, F, rfl, hF, hM.pick hp⟩ : Again n Mx J μ x ⟨F, []⟩ w)
end
end Go.Proofs.Ytkfhcogdpmndkaa
namespace Go.Proofs.Ytkfhcogdpmndkaa
open Go.RowKit
section
variable {P : Program} {w0 w : World} {S : List Nat} {L : List Ent}
theorem Hp.copyBlk (H : Hp w0 S L w) (i : Nat) {A : Option Addr} {b o n c m d t t2 ty e0 : Nat} {cs : List Value} {ys : List UInt8} (hL : L[i]? = some (.blk b cs e0)) (ht : slcOf P t = some 1) (hx : RdS w A (by8 ys)) (hm : ys.length = m) (hmn : m ≤ n) (hfit : o + m ≤ cs.length) :
    ∃ w', (Builtin.copy_ #[t, t2] ty #[.slice (some ⟨b, o, none⟩) n c, .slice A m d]).run P w = .ok (goInt m) w' ∧ Hp w0 S (L.set i (.blk b (cs.take o ++ by8 ys ++ cs.drop (o + m)) e0)) w' := by
  obtain ⟨e, hu, hs⟩ := slcOf_spec ht
  obtain ⟨w', hr, H'⟩ := Hp.stCells (P := P) i (b := b) (t := e0) o (by8 ys) 0 L w cs H hL (by rw [by8_length]; omega) (by8_one ys)
  rw [by8_length, hm, Nat.add_zero] at H'
  have hmin : Nat.min m n = m := Nat.min_eq_left hmn
  refine ⟨w', ?_, H'⟩
  rcases hx with h0 | ⟨a, hA, _, hc⟩
  · have hy : ys = [] := List.eq_nil_of_length_eq_zero (by rw [← by8_length, h0]; rfl)
    subst hy
    have hm0 : m = 0 := hm.symm
    subst hm0
    cases A with
    | none =>
      have hr0 : (storeCells ⟨b, o, none⟩ [] 0).run P w = .ok () w' := hr
      simp [Builtin.copy_, run_underlying hu, Builtin.lenOf, Builtin.firstCells, hs, hr0]
    | some a =>
      have hl := run_loadCells_list (P := P) w a [] (fun j v h => by simp at h)
      have hr0 : (storeCells ⟨b, o, none⟩ [] 0).run P w = .ok () w' := hr
      simp at hl
      simp [Builtin.copy_, run_underlying hu, Builtin.lenOf, Builtin.firstCells, hs, hl, hr0]
  · subst hA
    have hl := run_loadCells_list (P := P) w a (by8 ys) hc
    rw [by8_length, hm] at hl
    simp [Builtin.copy_, run_underlying hu, Builtin.lenOf, Builtin.firstCells, hs, hmin, hl, hr]
end
end Go.Proofs.Ytkfhcogdpmndkaa
namespace Go.Proofs.Ytkfhcogdpmndkaa
open Go.RowKit
section
variable {wr z : Bool} {rest q v : List UInt8} {n : Nat}
theorem rV_or (wr : Bool) (rest : List UInt8) (n : Nat) : (rV wr rest n).length = n ∨ (rV wr rest n).length = 0 := by
  rcases rOK_cases wr rest n with ⟨h1, h2, h3⟩ | ⟨_, h2, _⟩
  · left
    unfold rV
    rw [if_pos h1, List.length_take]
    omega
  · right
    rw [h2]
    rfl
theorem rd_back (hz : z = (!(rOK wr rest n))) (hq : q = rR wr rest n) (hv : v = rV wr rest n) (h : z = false) : wr = false ∧ n ≤ rest.length ∧ q = rest.drop n ∧ v = rest.take n := by
  rcases rOK_cases wr rest n with ⟨h1, h2, h3⟩ | ⟨h1, _, _⟩
  · subst h2
    obtain ⟨_, o2, o3⟩ := rOK_true (rest := rest) (n := n) h3
    exact ⟨rfl, h3, hq.trans o3, hv.trans o2⟩
  · rw [hz, h1] at h
    cases h
theorem rd_on (hz : z = (!(rOK wr rest n))) (hq : q = rR wr rest n) (hv : v = rV wr rest n) (h : wr = false) (hn : n ≤ rest.length) : z = false ∧ q = rest.drop n ∧ v = rest.take n := by
  subst h
  obtain ⟨o1, o2, o3⟩ := rOK_true (rest := rest) (n := n) hn
  exact ⟨by rw [hz, o1]; rfl, hq.trans o3, hv.trans o2⟩
end
def endB (z : Bool) (q : List UInt8) : Bool := !z && (q.length == 0)
theorem endB_true {z : Bool} {q : List UInt8} (h : endB z q = true) : z = false ∧ q.length = 0 := by
  unfold endB at h
  rw [Bool.and_eq_true, Bool.not_eq_true', beq_iff_eq] at h
  exact h
theorem endB_false {z : Bool} {q : List UInt8} (h : endB z q = false) (hz : z = false) (hq : q.length = 0) : False := by
  subst hz
  unfold endB at h
  rw [hq] at h
  cases h
def hsh (ys : List UInt8) : List UInt8 := if ys.length = 32 then ys else List.replicate 32 0
end Go.Proofs.Ytkfhcogdpmndkaa
namespace Go.Proofs.Ytkfhcogdpmndkaa
open Go.RowKit
def fdL : List (List UInt8) := [[], [97], [97], [119, 97], [119, 97], [119, 116, 97], [119, 97, 100], [119, 97], [119, 97], [98], [119, 116, 97], [105, 98], [105], [119, 116, 97, 100], [105, 98], [119, 105, 103], [119, 97], [119, 105], [105, 98], [119, 105], [119], [119, 98], [119, 97]]
def fd (op : Nat) : List UInt8 := fdL.getD op []
theorem fd_out {op : Nat} (h : 23 ≤ op) : fd op = [] := by
  unfold fd
  rw [List.getD_eq_getElem?_getD, List.getElem?_eq_none (by show fdL.length ≤ op; exact h)]
  rfl
theorem fd_at {op : Nat} (h : op < 23) : fdL[op]? = some (fd op) := by
  unfold fd
  rw [List.getD_eq_getElem?_getD, List.getElem?_eq_getElem (show op < fdL.length from h)]
  rfl
theorem fd_lt (op : Nat) : ∀ b ∈ fd op, b.toNat < 128 := by
  by_cases h : op < 23
  · have : ∀ k : Fin 23, ∀ b ∈ fd k.val, b.toNat < 128 := by decide
    exact this ⟨op, h⟩
  · rw [fd_out (by omega)]
    intro b hb
    simp at hb
theorem fd_len (op : Nat) : (fd op).length ≤ 10 := by
  by_cases h : op < 23
  · have : ∀ k : Fin 23, (fd k.val).length ≤ 10 := by decide
    exact this ⟨op, h⟩
  · rw [fd_out (by omega)]
    decide
def hasF (op : Nat) (c : UInt8) : Bool := decide (c ∈ fd op)
theorem has_bits (op : Nat) : (hasF op 119 = true ↔ fm op / 2 ^ 0 % 2 = 1) ∧ (hasF op 116 = true ↔ fm op / 2 ^ 1 % 2 = 1) ∧ (hasF op 97 = true ↔ fm op / 2 ^ 2 % 2 = 1) ∧ (hasF op 105 = true ↔ fm op / 2 ^ 3 % 2 = 1) ∧ (hasF op 100 = true ↔ fm op / 2 ^ 4 % 2 = 1) ∧ (hasF op 103 = true ↔ fm op / 2 ^ 5 % 2 = 1) ∧ (hasF op 98 = true ↔ fm op / 2 ^ 6 % 2 = 1) ∧ (fd op = [] ↔ fm op = 0) := by
  by_cases h : op < 23
  · have : ∀ k : Fin 23, (hasF k.val 119 = true ↔ fm k.val / 2 ^ 0 % 2 = 1) ∧ (hasF k.val 116 = true ↔ fm k.val / 2 ^ 1 % 2 = 1) ∧ (hasF k.val 97 = true ↔ fm k.val / 2 ^ 2 % 2 = 1) ∧ (hasF k.val 105 = true ↔ fm k.val / 2 ^ 3 % 2 = 1) ∧ (hasF k.val 100 = true ↔ fm k.val / 2 ^ 4 % 2 = 1) ∧ (hasF k.val 103 = true ↔ fm k.val / 2 ^ 5 % 2 = 1) ∧ (hasF k.val 98 = true ↔ fm k.val / 2 ^ 6 % 2 = 1) ∧ (fd k.val = [] ↔ fm k.val = 0) := by decide
    exact this ⟨op, h⟩
  · unfold hasF
    rw [fd_out (by omega), fm_out (by omega)]
    decide
theorem strs_at {op : Nat} (h : op < 23) : ([.string ⟨#[]⟩, .string ⟨#[97]⟩, .string ⟨#[97]⟩, .string ⟨#[119, 97]⟩, .string ⟨#[119, 97]⟩, .string ⟨#[119, 116, 97]⟩, .string ⟨#[119, 97, 100]⟩, .string ⟨#[119, 97]⟩, .string ⟨#[119, 97]⟩, .string ⟨#[98]⟩, .string ⟨#[119, 116, 97]⟩, .string ⟨#[105, 98]⟩, .string ⟨#[105]⟩, .string ⟨#[119, 116, 97, 100]⟩, .string ⟨#[105, 98]⟩, .string ⟨#[119, 105, 103]⟩, .string ⟨#[119, 97]⟩, .string ⟨#[119, 105]⟩, .string ⟨#[105, 98]⟩, .string ⟨#[119, 105]⟩, .string ⟨#[119]⟩, .string ⟨#[119, 98]⟩, .string ⟨#[119, 97]⟩] : List Value)[op]? = some (.string (strOf (fd op))) := by
  have e : ([.string ⟨#[]⟩, .string ⟨#[97]⟩, .string ⟨#[97]⟩, .string ⟨#[119, 97]⟩, .string ⟨#[119, 97]⟩, .string ⟨#[119, 116, 97]⟩, .string ⟨#[119, 97, 100]⟩, .string ⟨#[119, 97]⟩, .string ⟨#[119, 97]⟩, .string ⟨#[98]⟩, .string ⟨#[119, 116, 97]⟩, .string ⟨#[105, 98]⟩, .string ⟨#[105]⟩, .string ⟨#[119, 116, 97, 100]⟩, .string ⟨#[105, 98]⟩, .string ⟨#[119, 105, 103]⟩, .string ⟨#[119, 97]⟩, .string ⟨#[119, 105]⟩, .string ⟨#[105, 98]⟩, .string ⟨#[119, 105]⟩, .string ⟨#[119]⟩, .string ⟨#[119, 98]⟩, .string ⟨#[119, 97]⟩] : List Value) = fdL.map fun b => .string (strOf b) := by kernel_rfl
  rw [e, List.getElem?_map, fd_at h]
  rfl
theorem Fields27_calls (b : UInt8) (w : World) : Calls Try.prog 26 #[.int .u8 (b.toNat : Int)] w fun e w' => e = .returned (.string (strOf (fd b.toNat))) ∧ Hp w [] [] w' := by
  refine calls_G (args := [.int .u8 (b.toNat : Int)]) Try.func26 rfl Try.ntmps26 rfl ?_
  intro Q0 hRet hNor hPan
  have H := Hp.start w
  have H : Hp w [] [] w := H
  refine G.seqK fun K1 hK2 => ?_
  refine G.region ?_
  refine GL.run (j := 1) 1 [0] [(0, .int .u8 (b.toNat : Int))] (by kernel_rfl) rfl ?_
  refine GL.k rfl hK2 (fun _ _ h => h) ?_
  refine G.seqK fun K3 hK4 => ?_
  refine G.region ?_
  obtain ⟨p5, w6, r7, H8⟩ := H.made (P := Try.prog) (Instr.buildSlice 78 23 #[(0, .string ⟨#[]⟩), (1, .string ⟨#[97]⟩), (2, .string ⟨#[97]⟩), (3, .string ⟨#[119, 97]⟩), (4, .string ⟨#[119, 97]⟩), (5, .string ⟨#[119, 116, 97]⟩), (6, .string ⟨#[119, 97, 100]⟩), (7, .string ⟨#[119, 97]⟩), (8, .string ⟨#[119, 97]⟩), (9, .string ⟨#[98]⟩), (10, .string ⟨#[119, 116, 97]⟩), (11, .string ⟨#[105, 98]⟩), (12, .string ⟨#[105]⟩), (13, .string ⟨#[119, 116, 97, 100]⟩), (14, .string ⟨#[105, 98]⟩), (15, .string ⟨#[119, 105, 103]⟩), (16, .string ⟨#[119, 97]⟩), (17, .string ⟨#[119, 105]⟩), (18, .string ⟨#[105, 98]⟩), (19, .string ⟨#[119, 105]⟩), (20, .string ⟨#[119]⟩), (21, .string ⟨#[119, 98]⟩), (22, .string ⟨#[119, 97]⟩)]) (fun b_ => .slice (some ⟨b_, 0, none⟩) 23 23) [.string ⟨#[]⟩, .string ⟨#[97]⟩, .string ⟨#[97]⟩, .string ⟨#[119, 97]⟩, .string ⟨#[119, 97]⟩, .string ⟨#[119, 116, 97]⟩, .string ⟨#[119, 97, 100]⟩, .string ⟨#[119, 97]⟩, .string ⟨#[119, 97]⟩, .string ⟨#[98]⟩, .string ⟨#[119, 116, 97]⟩, .string ⟨#[105, 98]⟩, .string ⟨#[105]⟩, .string ⟨#[119, 116, 97, 100]⟩, .string ⟨#[105, 98]⟩, .string ⟨#[119, 105, 103]⟩, .string ⟨#[119, 97]⟩, .string ⟨#[119, 105]⟩, .string ⟨#[105, 98]⟩, .string ⟨#[119, 105]⟩, .string ⟨#[119]⟩, .string ⟨#[119, 98]⟩, .string ⟨#[119, 97]⟩] 9 (by kernel_rfl)
  have H8 : Hp w [] [.blk p5 [.string ⟨#[]⟩, .string ⟨#[97]⟩, .string ⟨#[97]⟩, .string ⟨#[119, 97]⟩, .string ⟨#[119, 97]⟩, .string ⟨#[119, 116, 97]⟩, .string ⟨#[119, 97, 100]⟩, .string ⟨#[119, 97]⟩, .string ⟨#[119, 97]⟩, .string ⟨#[98]⟩, .string ⟨#[119, 116, 97]⟩, .string ⟨#[105, 98]⟩, .string ⟨#[105]⟩, .string ⟨#[119, 116, 97, 100]⟩, .string ⟨#[105, 98]⟩, .string ⟨#[119, 105, 103]⟩, .string ⟨#[119, 97]⟩, .string ⟨#[119, 105]⟩, .string ⟨#[105, 98]⟩, .string ⟨#[119, 105]⟩, .string ⟨#[119]⟩, .string ⟨#[119, 98]⟩, .string ⟨#[119, 97]⟩] 9] w6 := H8
  refine GL.sem (j := 1) (r7) [0, 4] [(0, .int .u8 (b.toNat : Int)), (4, .slice (some ⟨p5, 0, none⟩) 23 23)] (by kernel_rfl) (by kernel_rfl) rfl ?_
  refine GL.run (j := 2) 1 [0, 3] [(0, .int .u8 (b.toNat : Int)), (3, .slice (some ⟨p5, 0, none⟩) 23 23)] (by kernel_rfl) rfl ?_
  refine GL.k rfl hK4 (fun _ _ h => h) ?_
  refine G.seqK fun K9 hK10 => ?_
  refine G.seqK fun K11 hK12 => ?_
  refine G.region ?_
  refine GL.run (j := 5) 5 [0, 3, 9] [(0, .int .u8 (b.toNat : Int)), (3, .slice (some ⟨p5, 0, none⟩) 23 23), (9, .bool (decide (23 ≤ (IntKind.i64.wrap (b.toNat : Int)))))] (by kernel_rfl) rfl ?_
  have e13 : (IntKind.i64.wrap (b.toNat : Int)) = (b.toNat : Int) := u8_up_i64 _
  refine GL.eq (M' := [(0, .int .u8 (b.toNat : Int)), (3, .slice (some ⟨p5, 0, none⟩) 23 23), (9, .bool (decide (23 ≤ (b.toNat : Int))))]) (by rw [e13]) ?_
  clear e13
  refine GL.k rfl hK12 (fun _ _ h => h) ?_
  cases hb14 : (decide (23 ≤ (b.toNat : Int)))
  · skip
    have hb14f := of_decide_eq_false hb14
    refine G.no rfl ?_
    refine G.skipK hK10 (fun _ _ h => h) ?_
    refine G.seqK fun K15 hK16 => ?_
    refine G.region ?_
    refine GL.run (j := 2) 2 [10, 11] [(10, .slice (some ⟨p5, 0, none⟩) 23 23), (11, .int .u8 (b.toNat : Int))] (by kernel_rfl) rfl ?_
    refine GL.sem (j := 3) (run_idxBlk (P := Try.prog) (k := .u8) (t := 78) (sz := 1) (b := p5) (o := 0) (len := 23) (cap := 23) (j := b.toNat) (by kernel_rfl) (by omega) _) [12] [(12, pt p5 (0 + b.toNat * 1))] (by kernel_rfl) (by kernel_rfl) rfl ?_
    refine GL.sem (j := 4) (H8.ld (o := (0 + b.toNat * 1)) (ty := 9) (v := .string (strOf (fd b.toNat))) 0 rfl (by kernel_rfl) (by rw [show (0 + b.toNat * 1) = b.toNat by omega]; exact strs_at (by omega))) [13] [(13, .string (strOf (fd b.toNat)))] (by kernel_rfl) (by kernel_rfl) rfl ?_
    refine GL.run (j := 5) 1 [2] [(2, .string (strOf (fd b.toNat)))] (by kernel_rfl) rfl ?_
    refine GL.k rfl hK16 (fun _ _ h => h) ?_
    refine G.ret ?_
    intro F_ hF_ hM_
    refine hRet _ _ (bodyPost_1 rfl (RV.tmp rfl) ?_ F_ hF_ hM_)
    exact ⟨rfl, H8.sub (List.nil_sublist _)⟩
  · skip
    have hb14f := of_decide_eq_true hb14
    refine G.yes rfl ?_
    refine G.seqK fun K17 hK18 => ?_
    refine G.region ?_
    refine GL.run (j := 1) 1 [2] [(2, .string ⟨#[]⟩)] (by kernel_rfl) rfl ?_
    refine GL.k rfl hK18 (fun _ _ h => h) ?_
    refine G.ret ?_
    intro F_ hF_ hM_
    refine hRet _ _ (bodyPost_1 rfl (RV.tmp rfl) ?_ F_ hF_ hM_)
    rw [fd_out (show 23 ≤ b.toNat by omega)]
    exact ⟨rfl, H8.sub (List.nil_sublist _)⟩
theorem uses_calls (b c : UInt8) (w : World) : Calls Try.prog 27 #[.int .u8 (b.toNat : Int), .int .u8 (c.toNat : Int)] w fun e w' => e = .returned (.bool (hasF b.toNat c)) ∧ Hp w [] [] w' := by
  refine calls_G (args := [.int .u8 (b.toNat : Int), .int .u8 (c.toNat : Int)]) Try.func27 rfl Try.ntmps27 rfl ?_
  intro Q0 hRet hNor hPan
  have H := Hp.start w
  have H : Hp w [] [] w := H
  refine G.seqK fun K1 hK2 => ?_
  refine G.region ?_
  refine GL.run (j := 1) 1 [0, 1] [(0, .int .u8 (b.toNat : Int)), (1, .int .u8 (c.toNat : Int))] (by kernel_rfl) rfl ?_
  refine GL.k rfl hK2 (fun _ _ h => h) ?_
  refine G.seqK fun K3 hK4 => ?_
  refine G.region ?_
  refine GL.run (j := 1) 1 [1, 7] [(1, .int .u8 (c.toNat : Int)), (7, .int .u8 (b.toNat : Int))] (by kernel_rfl) rfl ?_
  refine GL.call (j := 2) (Fields27_calls b w) (by kernel_rfl) rfl (fun e_ w5 hR => ?_)
  obtain ⟨rfl, H7⟩ := hR
  have H6 : Hp w [] [] w5 := H.callNil H7
  refine ⟨_, rfl, [1, 8], [(1, .int .u8 (c.toNat : Int)), (8, .string (strOf (fd b.toNat)))], by kernel_rfl, ?_⟩
  refine GL.run (j := 3) 1 [1, 5] [(1, .int .u8 (c.toNat : Int)), (5, .string (strOf (fd b.toNat)))] (by kernel_rfl) rfl ?_
  refine GL.k rfl hK4 (fun _ _ h => h) ?_
  refine G.seqK fun K8 hK9 => ?_
  refine G.seqK fun K10 hK11 => ?_
  refine G.region ?_
  refine GL.run (j := 1) 1 [1, 5, 9] [(1, .int .u8 (c.toNat : Int)), (5, .string (strOf (fd b.toNat))), (9, .string (strOf (fd b.toNat)))] (by kernel_rfl) rfl ?_
  obtain ⟨k12, w13, r14, H15⟩ := H6.strRange (P := Try.prog) (t := 9) (by kernel_rfl) (strOf (fd b.toNat))
  have H15 : Hp w [] [.obj k12 (.stringIter (strOf (fd b.toNat)) 0)] w13 := H15
  refine GL.sem (j := 2) (r14) [1, 5, 10] [(1, .int .u8 (c.toNat : Int)), (5, .string (strOf (fd b.toNat))), (10, pt k12 0)] (by kernel_rfl) (by kernel_rfl) rfl ?_
  refine GL.k rfl hK11 (fun _ _ h => h) ?_
  refine G.block ?_
  refine G.fit [1, 5, 10] (M' := [(1, .int .u8 (c.toNat : Int)), (5, .string (strOf (fd b.toNat))), (10, pt k12 0)]) (by kernel_rfl) ?_
  refine G.loop (X := Nat) (fun i => [(1, .int .u8 (c.toNat : Int)), (5, .string (strOf (fd b.toNat))), (10, pt k12 0)]) (fun i w_ => (i ≤ (fd b.toNat).length ∧ ∀ j, j < i → (fd b.toNat).getD j 0 ≠ c) ∧ Hp w [] [.obj k12 (.stringIter (strOf (fd b.toNat)) i)] w_) (fun i => (fd b.toNat).length - i) 0 [1, 5, 10] (by kernel_rfl) ⟨⟨by omega, fun j hj => absurd hj (Nat.not_lt_zero j)⟩, H15⟩ ?_
  rintro i w16 ⟨hi17, H18⟩
  refine G.eq (M' := [(1, .int .u8 (c.toNat : Int)), (5, .string (strOf (fd b.toNat))), (10, pt k12 0)]) rfl ?_
  have H18 : Hp w [] [.obj k12 (.stringIter (strOf (fd b.toNat)) i)] w16 := H18
  obtain ⟨hi9, hno⟩ := hi17
  have hfl := fd_len b.toNat
  by_cases hkk : i < (fd b.toNat).length
  · skip
    refine G.seqK fun K19 hK20 => ?_
    refine G.region ?_
    have hat := getD8 (bs := (fd b.toNat)) (k := i) (by omega)
    obtain ⟨w21, hr22, H23⟩ := H18.strNext (P := Try.prog) 0 rfl hat (fd_lt _ _ (List.mem_of_getElem? hat)) 0
    have H23 : Hp w [] [.obj k12 (.stringIter (strOf (fd b.toNat)) (i + 1))] w21 := H23
    refine GL.sem (j := 1) (hr22) [1, 5, 10, 11] [(1, .int .u8 (c.toNat : Int)), (5, .string (strOf (fd b.toNat))), (10, pt k12 0), (11, .tuple #[.bool true, .int .i64 (i : Int), .int .i32 (((fd b.toNat).getD i 0).toNat : Int)])] (by kernel_rfl) (by kernel_rfl) rfl ?_
    refine GL.run (j := 2) 1 [1, 5, 10, 11, 12] [(1, .int .u8 (c.toNat : Int)), (5, .string (strOf (fd b.toNat))), (10, pt k12 0), (11, .tuple #[.bool true, .int .i64 (i : Int), .int .i32 (((fd b.toNat).getD i 0).toNat : Int)]), (12, .bool true)] (by kernel_rfl) rfl ?_
    refine GL.k rfl hK20 (fun _ _ h => h) ?_
    refine G.seqK fun K24 hK25 => ?_
    refine G.yes rfl ?_
    refine G.skipK hK25 (fun _ _ h => h) ?_
    refine G.block ?_
    refine G.seqK fun K26 hK27 => ?_
    refine G.region ?_
    refine GL.run (j := 2) 2 [1, 5, 6, 10] [(1, .int .u8 (c.toNat : Int)), (5, .string (strOf (fd b.toNat))), (6, .int .i64 (i : Int)), (10, pt k12 0)] (by kernel_rfl) rfl ?_
    refine GL.k rfl hK27 (fun _ _ h => h) ?_
    refine G.seqK fun K28 hK29 => ?_
    refine G.region ?_
    refine GL.run (j := 2) 2 [1, 5, 10, 14, 15] [(1, .int .u8 (c.toNat : Int)), (5, .string (strOf (fd b.toNat))), (10, pt k12 0), (14, .string (strOf (fd b.toNat))), (15, .int .i64 (i : Int))] (by kernel_rfl) rfl ?_
    refine GL.sem (j := 3) (run_strIdx (P := Try.prog) (k := .i64) (t := 9) (s := (fd b.toNat)) (i := i) (b := (fd b.toNat).getD i 0) (by kernel_rfl) hat _) [1, 5, 10, 16] [(1, .int .u8 (c.toNat : Int)), (5, .string (strOf (fd b.toNat))), (10, pt k12 0), (16, .int .u8 (((fd b.toNat).getD i 0).toNat : Int))] (by kernel_rfl) (by kernel_rfl) rfl ?_
    refine GL.run (j := 5) 2 [1, 5, 10, 18] [(1, .int .u8 (c.toNat : Int)), (5, .string (strOf (fd b.toNat))), (10, pt k12 0), (18, .bool ((((fd b.toNat).getD i 0).toNat : Int) == (c.toNat : Int)))] (by kernel_rfl) rfl ?_
    refine GL.k rfl hK29 (fun _ _ h => h) ?_
    cases hb30 : ((((fd b.toNat).getD i 0).toNat : Int) == (c.toNat : Int))
    · skip
      have hb30f := ne_of_beq_false hb30
      have hne : (fd b.toNat).getD i 0 ≠ c := fun h => hb30f (by rw [h])
      refine G.no rfl ?_
      have hno2 : ∀ j, j < i + 1 → (fd b.toNat).getD j 0 ≠ c := by
        intro j hj
        rcases Nat.lt_or_ge j i with h | h
        · exact hno j h
        · obtain rfl : j = i := by omega
          exact hne
      exact G.againSB (i + 1) [1, 5, 10] (by kernel_rfl) (by show (fd b.toNat).length - (i + 1) < (fd b.toNat).length - i; omega) ⟨⟨by omega, hno2⟩, H23⟩
    · skip
      have hb30f := eq_of_beq hb30
      have hyes : c ∈ (fd b.toNat) := by have h_ := List.mem_of_getElem? hat; rwa [show (fd b.toNat).getD i 0 = c from UInt8.toNat_inj.1 (by omega)] at h_
      refine G.yes rfl ?_
      refine G.seqK fun K31 hK32 => ?_
      refine G.region ?_
      refine GL.run (j := 1) 1 [4] [(4, .bool true)] (by kernel_rfl) rfl ?_
      refine GL.k rfl hK32 (fun _ _ h => h) ?_
      refine G.ret ?_
      intro F_ hF_ hM_
      refine hRet _ _ (bodyPost_1 rfl (RV.tmp rfl) ?_ F_ hF_ hM_)
      have e0 : hasF b.toNat c = true := decide_eq_true hyes
      rw [e0]
      exact ⟨rfl, H23.sub (List.nil_sublist _)⟩
  · skip
    refine G.seqK fun K33 hK34 => ?_
    refine G.region ?_
    refine GL.sem (j := 1) ((by have h_ := H18; rw [show i = (fd b.toNat).length by omega] at h_; exact h_.strOver (P := Try.prog) 0 rfl 0)) [1, 5, 10, 11] [(1, .int .u8 (c.toNat : Int)), (5, .string (strOf (fd b.toNat))), (10, pt k12 0), (11, .tuple #[.bool false])] (by kernel_rfl) (by kernel_rfl) rfl ?_
    refine GL.run (j := 2) 1 [1, 5, 10, 11, 12] [(1, .int .u8 (c.toNat : Int)), (5, .string (strOf (fd b.toNat))), (10, pt k12 0), (11, .tuple #[.bool false]), (12, .bool false)] (by kernel_rfl) rfl ?_
    refine GL.k rfl hK34 (fun _ _ h => h) ?_
    refine G.seqK fun K35 hK36 => ?_
    refine G.no rfl ?_
    refine G.exitK hK9 (fun _ _ h => h) ?_
    refine G.seqK fun K37 hK38 => ?_
    refine G.region ?_
    refine GL.run (j := 1) 1 [4] [(4, .bool false)] (by kernel_rfl) rfl ?_
    refine GL.k rfl hK38 (fun _ _ h => h) ?_
    refine G.ret ?_
    intro F_ hF_ hM_
    refine hRet _ _ (bodyPost_1 rfl (RV.tmp rfl) ?_ F_ hF_ hM_)
    have e0 : hasF b.toNat c = false := by
      refine decide_eq_false (fun hm => ?_)
      obtain ⟨j, hj, e⟩ := List.getElem_of_mem hm
      exact hno j (by omega) (by rw [List.getD_eq_getElem?_getD, List.getElem?_eq_getElem hj]; exact e)
    rw [e0]
    exact ⟨rfl, H18.sub (List.nil_sublist _)⟩
end Go.Proofs.Ytkfhcogdpmndkaa
namespace Go.Proofs.Ytkfhcogdpmndkaa
open Go.RowKit
theorem lacks_iff (o w t : UInt8) (am id : Nat) (ad : Nat → UInt8) (ag : Bool) (bd : List UInt8) : lacks (cmdM w t am id ad ag bd) (fm o.toNat) = 0 ↔
    (((((((w.toNat = 0 ∨ hasF o.toNat 119 = true) ∧ (t.toNat = 0 ∨ hasF o.toNat 116 = true)) ∧ (am = 0 ∨ hasF o.toNat 97 = true)) ∧ (id = 0 ∨ hasF o.toNat 105 = true)) ∧ (adSet ad = false ∨ hasF o.toNat 100 = true)) ∧ (ag = false ∨ hasF o.toNat 103 = true)) ∧ (bd = [] ∨ hasF o.toNat 98 = true)) := by
  obtain ⟨h0, h1, h2, h3, h4, h5, h6, _⟩ := has_bits o.toNat
  have hl : lacks (cmdM w t am id ad ag bd) (fm o.toNat) = 0 ↔ ∀ k, k < 7 → cmdM w t am id ad ag bd / 2 ^ k % 2 = 1 → fm o.toNat / 2 ^ k % 2 = 1 := lacks_zero (setM_lt _ _ _ _ _ _ _) (fm_lt _)
  rw [hl, h0, h1, h2, h3, h4, h5, h6]
  obtain ⟨a0, a1, a2, a3, a4, a5, a6⟩ := setM_bits (decide (0 < w.toNat)) (decide (0 < t.toNat)) (decide (0 < am)) (decide (0 < id)) (adSet ad) ag (decide (0 < bd.length))
  have hb : bd = [] ↔ ¬ 0 < bd.length := ⟨fun h => by rw [h]; decide, fun h => List.eq_nil_of_length_eq_zero (by omega)⟩
  have key : ∀ {b : Bool} {k : Nat} {p : Prop}, (cmdM w t am id ad ag bd / 2 ^ k % 2 = 1 ↔ b = true) → (p ↔ b = false) → ((cmdM w t am id ad ag bd / 2 ^ k % 2 = 1 → fm o.toNat / 2 ^ k % 2 = 1) ↔ (p ∨ fm o.toNat / 2 ^ k % 2 = 1)) := by
    intro b k p x y
    rw [x, y]
    cases b <;> simp
  constructor
  · intro h
    refine ⟨⟨⟨⟨⟨⟨?_, ?_⟩, ?_⟩, ?_⟩, ?_⟩, ?_⟩, ?_⟩
    · exact (key a0 (by rw [decide_eq_false_iff_not]; omega)).1 (h 0 (by decide))
    · exact (key a1 (by rw [decide_eq_false_iff_not]; omega)).1 (h 1 (by decide))
    · exact (key a2 (by rw [decide_eq_false_iff_not]; omega)).1 (h 2 (by decide))
    · exact (key a3 (by rw [decide_eq_false_iff_not]; omega)).1 (h 3 (by decide))
    · exact (key a4 Iff.rfl).1 (h 4 (by decide))
    · exact (key a5 Iff.rfl).1 (h 5 (by decide))
    · exact (key a6 (by rw [decide_eq_false_iff_not]; exact hb)).1 (h 6 (by decide))
  · rintro ⟨⟨⟨⟨⟨⟨g0, g1⟩, g2⟩, g3⟩, g4⟩, g5⟩, g6⟩ k hk
    have : k = 0 ∨ k = 1 ∨ k = 2 ∨ k = 3 ∨ k = 4 ∨ k = 5 ∨ k = 6 := by omega
    rcases this with rfl | rfl | rfl | rfl | rfl | rfl | rfl
    · exact (key a0 (by rw [decide_eq_false_iff_not]; omega)).2 g0
    · exact (key a1 (by rw [decide_eq_false_iff_not]; omega)).2 g1
    · exact (key a2 (by rw [decide_eq_false_iff_not]; omega)).2 g2
    · exact (key a3 (by rw [decide_eq_false_iff_not]; omega)).2 g3
    · exact (key a4 Iff.rfl).2 g4
    · exact (key a5 Iff.rfl).2 g5
    · exact (key a6 (by rw [decide_eq_false_iff_not]; exact hb)).2 g6
end Go.Proofs.Ytkfhcogdpmndkaa
namespace Go.Proofs.Ytkfhcogdpmndkaa
open Go.RowKit
theorem n_byte256 (x : Nat) : IntKind.u8.wrap ((x % 256 : Nat) : Int) = (((UInt8.ofNat x).toNat : Nat) : Int) := by rw [IntKind.wrap_u8, u8_ofNat]; omega
theorem RPut_calls (x n : Nat) (hx : x < K) (hn : n ≤ 1000) (w : World) : Calls Try.prog 11 #[.int .u64 (x : Int), .int .i64 (n : Int)] w fun e w' => ∃ A c, e = .returned (.slice A n c) ∧ Hp w [] [.row A n c 5 1 (by8 (putB x n))] w' := by
  refine calls_G (args := [.int .u64 (x : Int), .int .i64 (n : Int)]) Try.func11 rfl Try.ntmps11 rfl ?_
  intro Q0 hRet hNor hPan
  have H := Hp.start w
  have H : Hp w [] [] w := H
  refine G.seqK fun K1 hK2 => ?_
  refine G.region ?_
  refine GL.run (j := 1) 1 [0, 1] [(0, .int .u64 (x : Int)), (1, .int .i64 (n : Int))] (by kernel_rfl) rfl ?_
  refine GL.k rfl hK2 (fun _ _ h => h) ?_
  refine G.seqK fun K3 hK4 => ?_
  refine G.region ?_
  obtain ⟨p5, w6, r7, H8⟩ := H.madeRow (P := Try.prog) (Instr.buildSlice 26 0 #[]) (fun b_ => .slice (some ⟨b_, 0, none⟩) 0 0) [] 5 0 0 1 (by kernel_rfl) (by decide) (by decide) rfl
  have H8 : Hp w [] [.row (some ⟨p5, 0, none⟩) 0 0 5 1 (by8 ([] : List UInt8))] w6 := H8
  refine GL.sem (j := 1) (r7) [0, 1, 7] [(0, .int .u64 (x : Int)), (1, .int .i64 (n : Int)), (7, .slice (some ⟨p5, 0, none⟩) 0 0)] (by kernel_rfl) (by kernel_rfl) rfl ?_
  refine GL.run (j := 2) 1 [0, 1, 5] [(0, .int .u64 (x : Int)), (1, .int .i64 (n : Int)), (5, .slice (some ⟨p5, 0, none⟩) 0 0)] (by kernel_rfl) rfl ?_
  refine GL.k rfl hK4 (fun _ _ h => h) ?_
  refine G.seqK fun K9 hK10 => ?_
  refine G.seqK fun K11 hK12 => ?_
  refine G.region ?_
  refine GL.run (j := 1) 1 [0, 1, 5, 6] [(0, .int .u64 (x : Int)), (1, .int .i64 (n : Int)), (5, .slice (some ⟨p5, 0, none⟩) 0 0), (6, .int .i64 0)] (by kernel_rfl) rfl ?_
  refine GL.k rfl hK12 (fun _ _ h => h) ?_
  refine G.block ?_
  refine G.fit [0, 1, 5, 6] (M' := [(0, .int .u64 (x : Int)), (1, .int .i64 (n : Int)), (5, .slice (some ⟨p5, 0, none⟩) 0 0), (6, .int .i64 0)]) (by kernel_rfl) ?_
  refine G.eq (M' := [(0, .int .u64 ((x / 256 ^ 0 : Nat) : Int)), (1, .int .i64 (n : Int)), (5, .slice (some ⟨p5, 0, none⟩) 0 0), (6, .int .i64 0)]) (by simp only [Nat.pow_zero, Nat.div_one]) ?_
  refine G.loop (X := Nat × Option Addr × Nat) (fun ⟨i, B_, b_⟩ => [(0, .int .u64 ((x / 256 ^ i : Nat) : Int)), (1, .int .i64 (n : Int)), (5, .slice B_ i b_), (6, .int .i64 (i : Int))]) (fun ⟨i, B_, b_⟩ w_ => (i ≤ n) ∧ Hp w [] [.row B_ i b_ 5 1 (by8 (putB x i))] w_) (fun ⟨i, B_, b_⟩ => n - i) ⟨0, (some ⟨p5, 0, none⟩), 0⟩ [0, 1, 5, 6] (by kernel_rfl) ⟨Nat.zero_le _, H8⟩ ?_
  rintro ⟨i, B_, b_⟩ w13 ⟨hi14, H15⟩
  refine G.eq (M' := [(0, .int .u64 ((x / 256 ^ i : Nat) : Int)), (1, .int .i64 (n : Int)), (5, .slice B_ i b_), (6, .int .i64 (i : Int))]) rfl ?_
  have H15 : Hp w [] [.row B_ i b_ 5 1 (by8 (putB x i))] w13 := H15
  have hi9 := hi14
  refine G.seqK fun K16 hK17 => ?_
  refine G.seqK fun K18 hK19 => ?_
  refine G.region ?_
  refine GL.run (j := 3) 3 [0, 1, 5, 6, 10] [(0, .int .u64 ((x / 256 ^ i : Nat) : Int)), (1, .int .i64 (n : Int)), (5, .slice B_ i b_), (6, .int .i64 (i : Int)), (10, .bool (decide ((i : Int) < (n : Int))))] (by kernel_rfl) rfl ?_
  refine GL.k rfl hK19 (fun _ _ h => h) ?_
  cases hb20 : (decide ((i : Int) < (n : Int)))
  · skip
    have hb20f := of_decide_eq_false hb20
    refine G.no rfl ?_
    refine G.exitK hK10 (fun _ _ h => h) ?_
    refine G.seqK fun K21 hK22 => ?_
    refine G.region ?_
    refine GL.run (j := 2) 2 [4] [(4, .slice B_ i b_)] (by kernel_rfl) rfl ?_
    refine GL.k rfl hK22 (fun _ _ h => h) ?_
    refine G.ret ?_
    intro F_ hF_ hM_
    refine hRet _ _ (bodyPost_1 rfl (RV.tmp rfl) ?_ F_ hF_ hM_)
    have HF := H15
    rw [show i = n by omega] at HF
    rw [show i = n by omega]
    exact ⟨_, _, rfl, HF⟩
  · skip
    have hb20f := of_decide_eq_true hb20
    refine G.yes rfl ?_
    refine G.skipK hK17 (fun _ _ h => h) ?_
    refine G.seqK fun K23 hK24 => ?_
    refine G.block ?_
    refine G.seqK fun K25 hK26 => ?_
    refine G.region ?_
    refine GL.run (j := 4) 4 [0, 1, 6, 13, 16] [(0, .int .u64 ((x / 256 ^ i : Nat) : Int)), (1, .int .i64 (n : Int)), (6, .int .i64 (i : Int)), (13, .slice B_ i b_), (16, .int .u8 (IntKind.u8.wrap (Int.tmod ((x / 256 ^ i : Nat) : Int) 256)))] (by kernel_rfl) rfl ?_
    have e27 : (Int.tmod ((x / 256 ^ i : Nat) : Int) 256) = (((x / 256 ^ i) % 256 : Nat) : Int) := n_rem _ 256
    have e28 : (IntKind.u8.wrap (((x / 256 ^ i) % 256 : Nat) : Int)) = ((UInt8.ofNat (x / 256 ^ i)).toNat : Int) := n_byte256 _
    refine GL.eq (M' := [(0, .int .u64 ((x / 256 ^ i : Nat) : Int)), (1, .int .i64 (n : Int)), (6, .int .i64 (i : Int)), (13, .slice B_ i b_), (16, .int .u8 ((UInt8.ofNat (x / 256 ^ i)).toNat : Int))]) (by rw [e27, e28]) ?_
    clear e27 e28
    obtain ⟨p29, w30, r31, H32⟩ := H15.made (P := Try.prog) (Instr.buildSlice 26 1 #[(0, .int .u8 ((UInt8.ofNat (x / 256 ^ i)).toNat : Int))]) (fun b_ => .slice (some ⟨b_, 0, none⟩) 1 1) [.int .u8 ((UInt8.ofNat (x / 256 ^ i)).toNat : Int)] 5 (by kernel_rfl)
    have H32 : Hp w [] [.row B_ i b_ 5 1 (by8 (putB x i)), .blk p29 [.int .u8 ((UInt8.ofNat (x / 256 ^ i)).toNat : Int)] 5] w30 := H32
    refine GL.sem (j := 5) (r31) [0, 1, 6, 13, 17] [(0, .int .u64 ((x / 256 ^ i : Nat) : Int)), (1, .int .i64 (n : Int)), (6, .int .i64 (i : Int)), (13, .slice B_ i b_), (17, .slice (some ⟨p29, 0, none⟩) 1 1)] (by kernel_rfl) (by kernel_rfl) rfl ?_
    obtain ⟨A33, c34, w35, r36, H37⟩ := H32.append (P := Try.prog) (e := 5) (sz := 1) (by_ := 1) (n := i) (c := b_) (m := 1) (d := 1) (t := 26) (ty := 26) (xs := by8 (putB x i)) (news := by8 ([(UInt8.ofNat (x / 256 ^ i))] : List UInt8)) 0 rfl (by kernel_rfl) (H32.rdBlk (o := 0) (xs := by8 ([(UInt8.ofNat (x / 256 ^ i))] : List UInt8)) 1 1 rfl rfl) (by first | (simp [by8_length]; done) | (rw [by8_length]; omega) | (rw [by8_length, putB_length])) (by8_one _) (by omega) (by simp only [maxLen]; omega)
    rw [← by8_append] at H37
    have H37 : Hp w [] [.row A33 (i + 1) c34 5 1 (by8 ((putB x i) ++ ([(UInt8.ofNat (x / 256 ^ i))] : List UInt8))), .blk p29 [.int .u8 ((UInt8.ofNat (x / 256 ^ i)).toNat : Int)] 5] w35 := H37
    refine GL.sem (j := 6) (r36) [0, 1, 6, 18] [(0, .int .u64 ((x / 256 ^ i : Nat) : Int)), (1, .int .i64 (n : Int)), (6, .int .i64 (i : Int)), (18, .slice A33 (i + 1) c34)] (by kernel_rfl) (by kernel_rfl) rfl ?_
    refine GL.run (j := 7) 1 [0, 1, 5, 6] [(0, .int .u64 ((x / 256 ^ i : Nat) : Int)), (1, .int .i64 (n : Int)), (5, .slice A33 (i + 1) c34), (6, .int .i64 (i : Int))] (by kernel_rfl) rfl ?_
    refine GL.k rfl hK26 (fun _ _ h => h) ?_
    refine G.region ?_
    refine GL.run (j := 3) 3 [0, 1, 5, 6] [(0, .int .u64 (IntKind.u64.wrap (Int.tdiv ((x / 256 ^ i : Nat) : Int) 256))), (1, .int .i64 (n : Int)), (5, .slice A33 (i + 1) c34), (6, .int .i64 (i : Int))] (by kernel_rfl) rfl ?_
    have e38 : (IntKind.u64.wrap (Int.tdiv ((x / 256 ^ i : Nat) : Int) 256)) = (((x / 256 ^ i) / 256 : Nat) : Int) := n_quo 256 (Nat.lt_of_le_of_lt (Nat.div_le_self _ _) hx)
    refine GL.eq (M' := [(0, .int .u64 (((x / 256 ^ i) / 256 : Nat) : Int)), (1, .int .i64 (n : Int)), (5, .slice A33 (i + 1) c34), (6, .int .i64 (i : Int))]) (by rw [e38]) ?_
    clear e38
    refine GL.k rfl hK24 (fun _ _ h => h) ?_
    refine G.region ?_
    refine GL.run (j := 3) 3 [0, 1, 5, 6] [(0, .int .u64 (((x / 256 ^ i) / 256 : Nat) : Int)), (1, .int .i64 (n : Int)), (5, .slice A33 (i + 1) c34), (6, .int .i64 (IntKind.i64.wrap ((i : Int) + 1)))] (by kernel_rfl) rfl ?_
    have e39 : (IntKind.i64.wrap ((i : Int) + 1)) = ((i + 1 : Nat) : Int) := by rw [in_i64 (by omega)]; omega
    refine GL.eq (M' := [(0, .int .u64 (((x / 256 ^ i) / 256 : Nat) : Int)), (1, .int .i64 (n : Int)), (5, .slice A33 (i + 1) c34), (6, .int .i64 ((i + 1 : Nat) : Int))]) (by rw [e39]) ?_
    clear e39
    have H40 : Hp w [] [.row A33 (i + 1) c34 5 1 (by8 ((putB x i) ++ ([(UInt8.ofNat (x / 256 ^ i))] : List UInt8)))] w35 := H37.sub (List.Sublist.cons_cons _ (List.Sublist.cons _ (List.Sublist.slnil)))
    have H41 : Hp w [] [.row A33 (i + 1) c34 5 1 (by8 (putB x (i + 1)))] w35 := by rw [putB_snoc]; exact H40
    refine GL.fit (ts := [0, 1, 5, 6]) (M' := [(0, .int .u64 (((x / 256 ^ i) / 256 : Nat) : Int)), (1, .int .i64 (n : Int)), (5, .slice A33 (i + 1) c34), (6, .int .i64 ((i + 1 : Nat) : Int))]) (by kernel_rfl) ?_
    refine GL.eq (M' := [(0, .int .u64 ((x / 256 ^ (i + 1) : Nat) : Int)), (1, .int .i64 (n : Int)), (5, .slice A33 (i + 1) c34), (6, .int .i64 (((i + 1) : Nat) : Int))]) (by rw [Nat.pow_succ, ← Nat.div_div_eq_div_mul]) ?_
    exact GL.again ⟨(i + 1), A33, c34⟩ [0, 1, 5, 6] rfl (by kernel_rfl) (by show n - (i + 1) < n - i; omega) ⟨by omega, H41⟩
theorem RCnt_calls (x : Nat) (hx : x < K) (w : World) : Calls Try.prog 30 #[.int .u64 (x : Int)] w fun e w' => ∃ A c, e = .returned (.slice A (cntSz x) c) ∧ Hp w [] [.row A (cntSz x) c 5 1 (by8 (cnt x))] w' := by
  refine calls_G (args := [.int .u64 (x : Int)]) Try.func30 rfl Try.ntmps30 rfl ?_
  intro Q0 hRet hNor hPan
  have H := Hp.start w
  have H : Hp w [] [] w := H
  refine G.seqK fun K1 hK2 => ?_
  refine G.region ?_
  refine GL.run (j := 1) 1 [0] [(0, .int .u64 (x : Int))] (by kernel_rfl) rfl ?_
  refine GL.k rfl hK2 (fun _ _ h => h) ?_
  refine G.seqK fun K3 hK4 => ?_
  refine G.seqK fun K5 hK6 => ?_
  refine G.region ?_
  refine GL.run (j := 2) 2 [0, 4] [(0, .int .u64 (x : Int)), (4, .bool (decide ((x : Int) < 253)))] (by kernel_rfl) rfl ?_
  refine GL.k rfl hK6 (fun _ _ h => h) ?_
  cases hb7 : (decide ((x : Int) < 253))
  · skip
    have hb7f := of_decide_eq_false hb7
    refine G.no rfl ?_
    refine G.skipK hK4 (fun _ _ h => h) ?_
    refine G.seqK fun K8 hK9 => ?_
    refine G.seqK fun K10 hK11 => ?_
    refine G.region ?_
    refine GL.run (j := 2) 2 [0, 9] [(0, .int .u64 (x : Int)), (9, .bool (decide ((x : Int) < 65536)))] (by kernel_rfl) rfl ?_
    refine GL.k rfl hK11 (fun _ _ h => h) ?_
    cases hb12 : (decide ((x : Int) < 65536))
    · skip
      have hb12f := of_decide_eq_false hb12
      refine G.no rfl ?_
      refine G.skipK hK9 (fun _ _ h => h) ?_
      refine G.seqK fun K13 hK14 => ?_
      refine G.seqK fun K15 hK16 => ?_
      refine G.region ?_
      refine GL.run (j := 2) 2 [0, 15] [(0, .int .u64 (x : Int)), (15, .bool (decide ((x : Int) < 4294967296)))] (by kernel_rfl) rfl ?_
      refine GL.k rfl hK16 (fun _ _ h => h) ?_
      cases hb17 : (decide ((x : Int) < 4294967296))
      · skip
        have hb17f := of_decide_eq_false hb17
        refine G.no rfl ?_
        refine G.skipK hK14 (fun _ _ h => h) ?_
        refine G.seqK fun K18 hK19 => ?_
        refine G.region ?_
        obtain ⟨p20, w21, r22, H23⟩ := H.madeRow (P := Try.prog) (Instr.buildSlice 26 1 #[(0, .int .u8 255)]) (fun b_ => .slice (some ⟨b_, 0, none⟩) 1 1) [.int .u8 255] 5 1 1 1 (by kernel_rfl) (by decide) (by decide) rfl
        have H23 : Hp w [] [.row (some ⟨p20, 0, none⟩) 1 1 5 1 (by8 ([255] : List UInt8))] w21 := H23
        refine GL.sem (j := 1) (r22) [0, 20] [(0, .int .u64 (x : Int)), (20, .slice (some ⟨p20, 0, none⟩) 1 1)] (by kernel_rfl) (by kernel_rfl) rfl ?_
        refine GL.run (j := 2) 1 [20, 21] [(20, .slice (some ⟨p20, 0, none⟩) 1 1), (21, .int .u64 (x : Int))] (by kernel_rfl) rfl ?_
        refine GL.call (j := 3) (RPut_calls x 8 hx (by omega) w21) (by kernel_rfl) rfl (fun e_ w28 hR => ?_)
        obtain ⟨A24, c25, rfl, H27⟩ := hR
        have H26 : Hp w [] [.row (some ⟨p20, 0, none⟩) 1 1 5 1 (by8 ([255] : List UInt8)), .row A24 8 c25 5 1 (by8 (putB x 8))] w28 := H23.callNew H27
        refine ⟨_, rfl, [20, 22], [(20, .slice (some ⟨p20, 0, none⟩) 1 1), (22, .slice A24 8 c25)], by kernel_rfl, ?_⟩
        obtain ⟨A29, c30, w31, r32, H33⟩ := H26.append (P := Try.prog) (e := 5) (sz := 1) (by_ := 1) (n := 1) (c := 1) (m := 8) (d := c25) (t := 26) (ty := 26) (xs := by8 ([255] : List UInt8)) (news := by8 (putB x 8)) 0 rfl (by kernel_rfl) (H26.rdRow 1 rfl) (by first | (simp [by8_length]; done) | (rw [by8_length]; omega) | (rw [by8_length, putB_length])) (by8_one _) (by omega) (by simp only [maxLen]; omega)
        rw [← by8_append] at H33
        have H33 : Hp w [] [.row A29 9 c30 5 1 (by8 (([255] : List UInt8) ++ (putB x 8))), .row A24 8 c25 5 1 (by8 (putB x 8))] w31 := H33
        refine GL.sem (j := 4) (r32) [23] [(23, .slice A29 9 c30)] (by kernel_rfl) (by kernel_rfl) rfl ?_
        refine GL.run (j := 5) 1 [2] [(2, .slice A29 9 c30)] (by kernel_rfl) rfl ?_
        refine GL.k rfl hK19 (fun _ _ h => h) ?_
        refine G.ret ?_
        intro F_ hF_ hM_
        refine hRet _ _ (bodyPost_1 rfl (RV.tmp rfl) ?_ F_ hF_ hM_)
        have H34 : Hp w [] [.row A29 9 c30 5 1 (by8 (([255] : List UInt8) ++ (putB x 8)))] w31 := H33.sub (List.Sublist.cons_cons _ (List.Sublist.cons _ (List.Sublist.slnil)))
        have e0 : cntSz x = 9 ∧ cnt x = putB 255 1 ++ putB x 8 := by rcases cnt_cases x with ⟨_, a, b⟩ | ⟨_, _, a, b⟩ | ⟨_, _, a, b⟩ | ⟨_, a, b⟩ <;> first | exact ⟨a, b⟩ | (exfalso; omega)
        rw [e0.1, e0.2]
        exact ⟨_, _, rfl, H34⟩
      · skip
        have hb17f := of_decide_eq_true hb17
        refine G.yes rfl ?_
        refine G.seqK fun K35 hK36 => ?_
        refine G.region ?_
        obtain ⟨p37, w38, r39, H40⟩ := H.madeRow (P := Try.prog) (Instr.buildSlice 26 1 #[(0, .int .u8 254)]) (fun b_ => .slice (some ⟨b_, 0, none⟩) 1 1) [.int .u8 254] 5 1 1 1 (by kernel_rfl) (by decide) (by decide) rfl
        have H40 : Hp w [] [.row (some ⟨p37, 0, none⟩) 1 1 5 1 (by8 ([254] : List UInt8))] w38 := H40
        refine GL.sem (j := 1) (r39) [0, 16] [(0, .int .u64 (x : Int)), (16, .slice (some ⟨p37, 0, none⟩) 1 1)] (by kernel_rfl) (by kernel_rfl) rfl ?_
        refine GL.run (j := 2) 1 [16, 17] [(16, .slice (some ⟨p37, 0, none⟩) 1 1), (17, .int .u64 (x : Int))] (by kernel_rfl) rfl ?_
        refine GL.call (j := 3) (RPut_calls x 4 hx (by omega) w38) (by kernel_rfl) rfl (fun e_ w45 hR => ?_)
        obtain ⟨A41, c42, rfl, H44⟩ := hR
        have H43 : Hp w [] [.row (some ⟨p37, 0, none⟩) 1 1 5 1 (by8 ([254] : List UInt8)), .row A41 4 c42 5 1 (by8 (putB x 4))] w45 := H40.callNew H44
        refine ⟨_, rfl, [16, 18], [(16, .slice (some ⟨p37, 0, none⟩) 1 1), (18, .slice A41 4 c42)], by kernel_rfl, ?_⟩
        obtain ⟨A46, c47, w48, r49, H50⟩ := H43.append (P := Try.prog) (e := 5) (sz := 1) (by_ := 1) (n := 1) (c := 1) (m := 4) (d := c42) (t := 26) (ty := 26) (xs := by8 ([254] : List UInt8)) (news := by8 (putB x 4)) 0 rfl (by kernel_rfl) (H43.rdRow 1 rfl) (by first | (simp [by8_length]; done) | (rw [by8_length]; omega) | (rw [by8_length, putB_length])) (by8_one _) (by omega) (by simp only [maxLen]; omega)
        rw [← by8_append] at H50
        have H50 : Hp w [] [.row A46 5 c47 5 1 (by8 (([254] : List UInt8) ++ (putB x 4))), .row A41 4 c42 5 1 (by8 (putB x 4))] w48 := H50
        refine GL.sem (j := 4) (r49) [19] [(19, .slice A46 5 c47)] (by kernel_rfl) (by kernel_rfl) rfl ?_
        refine GL.run (j := 5) 1 [2] [(2, .slice A46 5 c47)] (by kernel_rfl) rfl ?_
        refine GL.k rfl hK36 (fun _ _ h => h) ?_
        refine G.ret ?_
        intro F_ hF_ hM_
        refine hRet _ _ (bodyPost_1 rfl (RV.tmp rfl) ?_ F_ hF_ hM_)
        have H51 : Hp w [] [.row A46 5 c47 5 1 (by8 (([254] : List UInt8) ++ (putB x 4)))] w48 := H50.sub (List.Sublist.cons_cons _ (List.Sublist.cons _ (List.Sublist.slnil)))
        have e0 : cntSz x = 5 ∧ cnt x = putB 254 1 ++ putB x 4 := by rcases cnt_cases x with ⟨_, a, b⟩ | ⟨_, _, a, b⟩ | ⟨_, _, a, b⟩ | ⟨_, a, b⟩ <;> first | exact ⟨a, b⟩ | (exfalso; omega)
        rw [e0.1, e0.2]
        exact ⟨_, _, rfl, H51⟩
    · skip
      have hb12f := of_decide_eq_true hb12
      refine G.yes rfl ?_
      refine G.seqK fun K52 hK53 => ?_
      refine G.region ?_
      obtain ⟨p54, w55, r56, H57⟩ := H.madeRow (P := Try.prog) (Instr.buildSlice 26 1 #[(0, .int .u8 253)]) (fun b_ => .slice (some ⟨b_, 0, none⟩) 1 1) [.int .u8 253] 5 1 1 1 (by kernel_rfl) (by decide) (by decide) rfl
      have H57 : Hp w [] [.row (some ⟨p54, 0, none⟩) 1 1 5 1 (by8 ([253] : List UInt8))] w55 := H57
      refine GL.sem (j := 1) (r56) [0, 10] [(0, .int .u64 (x : Int)), (10, .slice (some ⟨p54, 0, none⟩) 1 1)] (by kernel_rfl) (by kernel_rfl) rfl ?_
      refine GL.run (j := 2) 1 [10, 11] [(10, .slice (some ⟨p54, 0, none⟩) 1 1), (11, .int .u64 (x : Int))] (by kernel_rfl) rfl ?_
      refine GL.call (j := 3) (RPut_calls x 2 hx (by omega) w55) (by kernel_rfl) rfl (fun e_ w62 hR => ?_)
      obtain ⟨A58, c59, rfl, H61⟩ := hR
      have H60 : Hp w [] [.row (some ⟨p54, 0, none⟩) 1 1 5 1 (by8 ([253] : List UInt8)), .row A58 2 c59 5 1 (by8 (putB x 2))] w62 := H57.callNew H61
      refine ⟨_, rfl, [10, 12], [(10, .slice (some ⟨p54, 0, none⟩) 1 1), (12, .slice A58 2 c59)], by kernel_rfl, ?_⟩
      obtain ⟨A63, c64, w65, r66, H67⟩ := H60.append (P := Try.prog) (e := 5) (sz := 1) (by_ := 1) (n := 1) (c := 1) (m := 2) (d := c59) (t := 26) (ty := 26) (xs := by8 ([253] : List UInt8)) (news := by8 (putB x 2)) 0 rfl (by kernel_rfl) (H60.rdRow 1 rfl) (by first | (simp [by8_length]; done) | (rw [by8_length]; omega) | (rw [by8_length, putB_length])) (by8_one _) (by omega) (by simp only [maxLen]; omega)
      rw [← by8_append] at H67
      have H67 : Hp w [] [.row A63 3 c64 5 1 (by8 (([253] : List UInt8) ++ (putB x 2))), .row A58 2 c59 5 1 (by8 (putB x 2))] w65 := H67
      refine GL.sem (j := 4) (r66) [13] [(13, .slice A63 3 c64)] (by kernel_rfl) (by kernel_rfl) rfl ?_
      refine GL.run (j := 5) 1 [2] [(2, .slice A63 3 c64)] (by kernel_rfl) rfl ?_
      refine GL.k rfl hK53 (fun _ _ h => h) ?_
      refine G.ret ?_
      intro F_ hF_ hM_
      refine hRet _ _ (bodyPost_1 rfl (RV.tmp rfl) ?_ F_ hF_ hM_)
      have H68 : Hp w [] [.row A63 3 c64 5 1 (by8 (([253] : List UInt8) ++ (putB x 2)))] w65 := H67.sub (List.Sublist.cons_cons _ (List.Sublist.cons _ (List.Sublist.slnil)))
      have e0 : cntSz x = 3 ∧ cnt x = putB 253 1 ++ putB x 2 := by rcases cnt_cases x with ⟨_, a, b⟩ | ⟨_, _, a, b⟩ | ⟨_, _, a, b⟩ | ⟨_, a, b⟩ <;> first | exact ⟨a, b⟩ | (exfalso; omega)
      rw [e0.1, e0.2]
      exact ⟨_, _, rfl, H68⟩
  · skip
    have hb7f := of_decide_eq_true hb7
    refine G.yes rfl ?_
    refine G.seqK fun K69 hK70 => ?_
    refine G.region ?_
    refine GL.run (j := 2) 2 [6] [(6, .int .u8 (IntKind.u8.wrap (x : Int)))] (by kernel_rfl) rfl ?_
    have e71 : (IntKind.u8.wrap (x : Int)) = ((UInt8.ofNat x).toNat : Int) := n_byte _
    refine GL.eq (M' := [(6, .int .u8 ((UInt8.ofNat x).toNat : Int))]) (by rw [e71]) ?_
    clear e71
    obtain ⟨p72, w73, r74, H75⟩ := H.madeRow (P := Try.prog) (Instr.buildSlice 26 1 #[(0, .int .u8 ((UInt8.ofNat x).toNat : Int))]) (fun b_ => .slice (some ⟨b_, 0, none⟩) 1 1) [.int .u8 ((UInt8.ofNat x).toNat : Int)] 5 1 1 1 (by kernel_rfl) (by decide) (by decide) rfl
    have H75 : Hp w [] [.row (some ⟨p72, 0, none⟩) 1 1 5 1 (by8 ([(UInt8.ofNat x)] : List UInt8))] w73 := H75
    refine GL.sem (j := 3) (r74) [7] [(7, .slice (some ⟨p72, 0, none⟩) 1 1)] (by kernel_rfl) (by kernel_rfl) rfl ?_
    refine GL.run (j := 4) 1 [2] [(2, .slice (some ⟨p72, 0, none⟩) 1 1)] (by kernel_rfl) rfl ?_
    refine GL.k rfl hK70 (fun _ _ h => h) ?_
    refine G.ret ?_
    intro F_ hF_ hM_
    refine hRet _ _ (bodyPost_1 rfl (RV.tmp rfl) ?_ F_ hF_ hM_)
    have e0 : cntSz x = 1 ∧ cnt x = putB x 1 := by rcases cnt_cases x with ⟨_, a, b⟩ | ⟨_, _, a, b⟩ | ⟨_, _, a, b⟩ | ⟨_, a, b⟩ <;> first | exact ⟨a, b⟩ | (exfalso; omega)
    rw [e0.1, e0.2]
    exact ⟨_, _, rfl, H75⟩
theorem RGet_calls (bs : List UInt8) (A : Option Addr) (n c : Nat) (w : World) (hx : RdS w A (by8 bs)) (hn : n = bs.length) (hb : n ≤ 8) : Calls Try.prog 31 #[.slice A n c] w fun e w' => e = .returned (.int .u64 ((getB bs : Nat) : Int)) ∧ Hp w [] [] w' := by
  have hMX : MX = 4611686018427387904 := rfl
  have hK0 : K = 18446744073709551616 := rfl
  have hK40 : K4 = 115792089237316195423570985008687907853269984665640564039457584007913129639936 := rfl
  refine calls_G (args := [.slice A n c]) Try.func31 rfl Try.ntmps31 rfl ?_
  intro Q0 hRet hNor hPan
  have H := Hp.start w
  have H : Hp w [] [] w := H
  refine G.seqK fun K1 hK2 => ?_
  refine G.region ?_
  refine GL.run (j := 1) 1 [0] [(0, .slice A n c)] (by kernel_rfl) rfl ?_
  refine GL.k rfl hK2 (fun _ _ h => h) ?_
  refine G.seqK fun K3 hK4 => ?_
  refine G.region ?_
  refine GL.run (j := 1) 1 [0, 3] [(0, .slice A n c), (3, .int .u64 0)] (by kernel_rfl) rfl ?_
  refine GL.k rfl hK4 (fun _ _ h => h) ?_
  refine G.seqK fun K5 hK6 => ?_
  refine G.seqK fun K7 hK8 => ?_
  refine G.region ?_
  refine GL.run (j := 4) 4 [0, 3, 4] [(0, .slice A n c), (3, .int .u64 0), (4, .int .i64 (IntKind.i64.wrap ((n : Int) - 1)))] (by kernel_rfl) rfl ?_
  have e9 : (IntKind.i64.wrap ((n : Int) - 1)) = (((n : Nat) : Int) - 1) := in_i64 (by omega)
  refine GL.eq (M' := [(0, .slice A n c), (3, .int .u64 0), (4, .int .i64 (((n : Nat) : Int) - 1))]) (by rw [e9]) ?_
  clear e9
  refine GL.k rfl hK8 (fun _ _ h => h) ?_
  refine G.block ?_
  refine G.fit [0, 3, 4] (M' := [(0, .slice A n c), (3, .int .u64 0), (4, .int .i64 (((n : Nat) : Int) - 1))]) (by kernel_rfl) ?_
  refine G.loop (X := Nat × Nat) (fun ⟨m, s⟩ => [(0, .slice A n c), (3, .int .u64 (s : Int)), (4, .int .i64 (((m : Nat) : Int) - 1))]) (fun ⟨m, s⟩ w_ => (m ≤ n ∧ s = getB (bs.drop m)) ∧ Hp w [] [] w_) (fun ⟨m, s⟩ => m) ⟨n, 0⟩ [0, 3, 4] (by kernel_rfl) ⟨⟨Nat.le_refl _, by rw [hn, List.drop_length]; rfl⟩, H⟩ ?_
  rintro ⟨m, s⟩ w10 ⟨hi11, H12⟩
  refine G.eq (M' := [(0, .slice A n c), (3, .int .u64 (s : Int)), (4, .int .i64 (((m : Nat) : Int) - 1))]) rfl ?_
  have H12 : Hp w [] [] w10 := H12
  obtain ⟨hmn, hs1⟩ := hi11
  refine G.seqK fun K13 hK14 => ?_
  refine G.seqK fun K15 hK16 => ?_
  refine G.region ?_
  refine GL.run (j := 2) 2 [0, 3, 4, 9] [(0, .slice A n c), (3, .int .u64 (s : Int)), (4, .int .i64 (((m : Nat) : Int) - 1)), (9, .bool (decide (0 ≤ (((m : Nat) : Int) - 1))))] (by kernel_rfl) rfl ?_
  refine GL.k rfl hK16 (fun _ _ h => h) ?_
  cases hb17 : (decide (0 ≤ (((m : Nat) : Int) - 1)))
  · skip
    have hb17f := of_decide_eq_false hb17
    have hm0 : m = 0 := by omega
    refine G.no rfl ?_
    refine G.exitK hK6 (fun _ _ h => h) ?_
    refine G.seqK fun K18 hK19 => ?_
    refine G.region ?_
    refine GL.run (j := 2) 2 [2] [(2, .int .u64 (s : Int))] (by kernel_rfl) rfl ?_
    refine GL.k rfl hK19 (fun _ _ h => h) ?_
    refine G.ret ?_
    intro F_ hF_ hM_
    refine hRet _ _ (bodyPost_1 rfl (RV.tmp rfl) ?_ F_ hF_ hM_)
    rw [hm0, List.drop_zero] at hs1
    rw [← hs1]
    exact ⟨rfl, H12.sub (List.nil_sublist _)⟩
  · skip
    have hb17f := of_decide_eq_true hb17
    have hm0 : 0 < m := by omega
    have ei : (((m : Nat) : Int) - 1) = ((m - 1 : Nat) : Int) := by omega
    have hat0 := getD8 (bs := bs) (k := m - 1) (by omega)
    have hs56 : s < 72057594037927936 := by rw [hs1]; exact Nat.lt_of_lt_of_le (getB_lt _) (Nat.le_trans (Nat.pow_le_pow_right (by decide) (show (bs.drop m).length ≤ 7 by rw [List.length_drop]; omega)) (by decide))
    have hxb := UInt8.toNat_lt (bs.getD (m - 1) 0)
    refine G.eq (M' := [(0, .slice A n c), (3, .int .u64 (s : Int)), (4, .int .i64 ((m - 1 : Nat) : Int)), (9, .bool true)]) (by rw [ei]) ?_
    refine G.yes rfl ?_
    refine G.skipK hK14 (fun _ _ h => h) ?_
    refine G.seqK fun K20 hK21 => ?_
    refine G.block ?_
    refine G.region ?_
    refine GL.run (j := 4) 4 [0, 4, 13, 14, 15] [(0, .slice A n c), (4, .int .i64 ((m - 1 : Nat) : Int)), (13, .int .u64 (IntKind.u64.wrap ((s : Int) * 256))), (14, .slice A n c), (15, .int .i64 ((m - 1 : Nat) : Int))] (by kernel_rfl) rfl ?_
    have e22 : (IntKind.u64.wrap ((s : Int) * 256)) = ((s * 256 : Nat) : Int) := n_mul' (a := s) (b := 256) (by omega)
    refine GL.eq (M' := [(0, .slice A n c), (4, .int .i64 ((m - 1 : Nat) : Int)), (13, .int .u64 ((s * 256 : Nat) : Int)), (14, .slice A n c), (15, .int .i64 ((m - 1 : Nat) : Int))]) (by rw [e22]) ?_
    clear e22
    refine GL.sem (j := 5) (run_idxRd (P := Try.prog) (k := .i64) (t := 26) (A := A) (len := n) (cap := c) (j := m - 1) (by kernel_rfl) rfl (hx.hp H12) (by rw [by8_length]; omega) (by omega)) [0, 4, 13, 16] [(0, .slice A n c), (4, .int .i64 ((m - 1 : Nat) : Int)), (13, .int .u64 ((s * 256 : Nat) : Int)), (16, .pointer (Option.map (fun x => Addr.add x (m - 1)) A))] (by kernel_rfl) (by kernel_rfl) rfl ?_
    refine GL.sem (j := 6) (run_ldRd (P := Try.prog) (ty := 5) (A := A) (j := m - 1) (v := .int .u8 ((bs.getD (m - 1) 0).toNat : Int)) (by kernel_rfl) (hx.hp H12) (by8_at (getD8 (by omega)))) [0, 4, 13, 17] [(0, .slice A n c), (4, .int .i64 ((m - 1 : Nat) : Int)), (13, .int .u64 ((s * 256 : Nat) : Int)), (17, .int .u8 ((bs.getD (m - 1) 0).toNat : Int))] (by kernel_rfl) (by kernel_rfl) rfl ?_
    refine GL.run (j := 9) 3 [0, 3, 4] [(0, .slice A n c), (3, .int .u64 (IntKind.u64.wrap (((s * 256 : Nat) : Int) + (IntKind.u64.wrap ((bs.getD (m - 1) 0).toNat : Int))))), (4, .int .i64 ((m - 1 : Nat) : Int))] (by kernel_rfl) rfl ?_
    have e23 : (IntKind.u64.wrap ((bs.getD (m - 1) 0).toNat : Int)) = ((bs.getD (m - 1) 0).toNat : Int) := u8_up_u64 _
    have e24 : (IntKind.u64.wrap (((s * 256 : Nat) : Int) + ((bs.getD (m - 1) 0).toNat : Int))) = ((s * 256 + (bs.getD (m - 1) 0).toNat : Nat) : Int) := n_add' (a := s * 256) (b := (bs.getD (m - 1) 0).toNat) (by omega)
    refine GL.eq (M' := [(0, .slice A n c), (3, .int .u64 ((s * 256 + (bs.getD (m - 1) 0).toNat : Nat) : Int)), (4, .int .i64 ((m - 1 : Nat) : Int))]) (by rw [e23, e24]) ?_
    clear e23 e24
    refine GL.k rfl hK21 (fun _ _ h => h) ?_
    refine G.region ?_
    refine GL.run (j := 3) 3 [0, 3, 4] [(0, .slice A n c), (3, .int .u64 ((s * 256 + (bs.getD (m - 1) 0).toNat : Nat) : Int)), (4, .int .i64 (IntKind.i64.wrap (((m - 1 : Nat) : Int) - 1)))] (by kernel_rfl) rfl ?_
    have e25 : (IntKind.i64.wrap (((m - 1 : Nat) : Int) - 1)) = (((m - 1 : Nat) : Int) - 1) := in_i64 (by omega)
    refine GL.eq (M' := [(0, .slice A n c), (3, .int .u64 ((s * 256 + (bs.getD (m - 1) 0).toNat : Nat) : Int)), (4, .int .i64 (((m - 1 : Nat) : Int) - 1))]) (by rw [e25]) ?_
    clear e25
    refine GL.fit (ts := [0, 3, 4]) (M' := [(0, .slice A n c), (3, .int .u64 ((s * 256 + (bs.getD (m - 1) 0).toNat : Nat) : Int)), (4, .int .i64 (((m - 1 : Nat) : Int) - 1))]) (by kernel_rfl) ?_
    refine GL.eq (M' := [(0, .slice A n c), (3, .int .u64 ((s * 256 + (bs.getD (m - 1) 0).toNat : Nat) : Int)), (4, .int .i64 ((((m - 1) : Nat) : Int) - 1))]) (by rfl) ?_
    exact GL.again ⟨(m - 1), s * 256 + (bs.getD (m - 1) 0).toNat⟩ [0, 3, 4] rfl (by kernel_rfl) (by show (m - 1) < m; omega) ⟨⟨by omega, by rw [getB_drop hat0, show m - 1 + 1 = m by omega, ← hs1]; omega⟩, H12⟩
theorem run_shl_i {P : Program} {t a r : Nat} {k' : IntKind} (hr : a * 2 ^ r ≤ 1000 ∧ r ≤ 64) (w : World) : (binOp .shl t (.int .i64 (a : Int)) (.int k' (r : Int))).run P w = .ok (.int .i64 ((a * 2 ^ r : Nat) : Int)) w := by
  rw [run_shl rfl (by omega), show min ((r : Int)).toNat IntKind.i64.bits = r from by simp only [IntKind.bits]; omega]
  rw [show ((a : Int) * 2 ^ r) = ((a * 2 ^ r : Nat) : Int) by simp, in_i64 (by omega)]
theorem ReadCount_calls (bs : List UInt8) (A : Option Addr) (n c : Nat) (w : World) (hx : RdS w A (by8 bs)) (hn : n = bs.length) (hnc : n ≤ c) (hb : n ≤ 1000000) : Calls Try.prog 32 #[.slice A n c] w fun e w' => ∃ v s : Nat, e = .returned (.tuple #[.int .u64 (v : Int), .int .i64 (s : Int), .bool (cnOK bs)]) ∧ (cnOK bs = true → v = cnX bs ∧ s = cnN bs + 1) ∧ Hp w [] [] w' := by
  have hMX : MX = 4611686018427387904 := rfl
  have hK0 : K = 18446744073709551616 := rfl
  have hK40 : K4 = 115792089237316195423570985008687907853269984665640564039457584007913129639936 := rfl
  refine calls_G (args := [.slice A n c]) Try.func32 rfl Try.ntmps32 rfl ?_
  intro Q0 hRet hNor hPan
  have H := Hp.start w
  have H : Hp w [] [] w := H
  refine G.seqK fun K1 hK2 => ?_
  refine G.region ?_
  refine GL.run (j := 3) 3 [0] [(0, .slice A n c)] (by kernel_rfl) rfl ?_
  refine GL.k rfl hK2 (fun _ _ h => h) ?_
  refine G.seqK fun K3 hK4 => ?_
  refine G.seqK fun K5 hK6 => ?_
  refine G.region ?_
  refine GL.run (j := 3) 3 [0, 9] [(0, .slice A n c), (9, .bool ((n : Int) == 0))] (by kernel_rfl) rfl ?_
  refine GL.k rfl hK6 (fun _ _ h => h) ?_
  cases hb7 : ((n : Int) == 0)
  · skip
    have hb7f := ne_of_beq_false hb7
    refine G.no rfl ?_
    refine G.skipK hK4 (fun _ _ h => h) ?_
    refine G.seqK fun K8 hK9 => ?_
    refine G.region ?_
    refine GL.run (j := 1) 1 [0, 5] [(0, .slice A n c), (5, .int .i64 1)] (by kernel_rfl) rfl ?_
    refine GL.k rfl hK9 (fun _ _ h => h) ?_
    refine G.seqK fun K10 hK11 => ?_
    refine G.region ?_
    refine GL.run (j := 1) 1 [0, 5, 10] [(0, .slice A n c), (5, .int .i64 1), (10, .slice A n c)] (by kernel_rfl) rfl ?_
    refine GL.sem (j := 2) (run_idxRd (P := Try.prog) (k := .i64) (t := 26) (A := A) (len := n) (cap := c) (j := 0) (by kernel_rfl) rfl (hx.hp H) (by rw [by8_length]; omega) (by omega)) [0, 5, 11] [(0, .slice A n c), (5, .int .i64 1), (11, .pointer (Option.map (fun x => Addr.add x 0) A))] (by kernel_rfl) (by kernel_rfl) rfl ?_
    refine GL.sem (j := 3) (run_ldRd (P := Try.prog) (ty := 5) (A := A) (j := 0) (v := .int .u8 ((bs.getD 0 0).toNat : Int)) (by kernel_rfl) (hx.hp H) (by8_at (getD8 (by omega)))) [0, 5, 12] [(0, .slice A n c), (5, .int .i64 1), (12, .int .u8 ((bs.getD 0 0).toNat : Int))] (by kernel_rfl) (by kernel_rfl) rfl ?_
    refine GL.run (j := 5) 2 [0, 5, 6] [(0, .slice A n c), (5, .int .i64 1), (6, .int .u64 (IntKind.u64.wrap ((bs.getD 0 0).toNat : Int)))] (by kernel_rfl) rfl ?_
    have e12 : (IntKind.u64.wrap ((bs.getD 0 0).toNat : Int)) = ((bs.getD 0 0).toNat : Int) := u8_up_u64 _
    refine GL.eq (M' := [(0, .slice A n c), (5, .int .i64 1), (6, .int .u64 ((bs.getD 0 0).toNat : Int))]) (by rw [e12]) ?_
    clear e12
    refine GL.k rfl hK11 (fun _ _ h => h) ?_
    refine G.seqK fun K13 hK14 => ?_
    refine G.seqK fun K15 hK16 => ?_
    refine G.region ?_
    refine GL.run (j := 1) 1 [0, 5, 6, 14] [(0, .slice A n c), (5, .int .i64 1), (6, .int .u64 ((bs.getD 0 0).toNat : Int)), (14, .slice A n c)] (by kernel_rfl) rfl ?_
    refine GL.sem (j := 2) (run_idxRd (P := Try.prog) (k := .i64) (t := 26) (A := A) (len := n) (cap := c) (j := 0) (by kernel_rfl) rfl (hx.hp H) (by rw [by8_length]; omega) (by omega)) [0, 5, 6, 15] [(0, .slice A n c), (5, .int .i64 1), (6, .int .u64 ((bs.getD 0 0).toNat : Int)), (15, .pointer (Option.map (fun x => Addr.add x 0) A))] (by kernel_rfl) (by kernel_rfl) rfl ?_
    refine GL.sem (j := 3) (run_ldRd (P := Try.prog) (ty := 5) (A := A) (j := 0) (v := .int .u8 ((bs.getD 0 0).toNat : Int)) (by kernel_rfl) (hx.hp H) (by8_at (getD8 (by omega)))) [0, 5, 6, 16] [(0, .slice A n c), (5, .int .i64 1), (6, .int .u64 ((bs.getD 0 0).toNat : Int)), (16, .int .u8 ((bs.getD 0 0).toNat : Int))] (by kernel_rfl) (by kernel_rfl) rfl ?_
    refine GL.run (j := 4) 1 [0, 5, 6, 17] [(0, .slice A n c), (5, .int .i64 1), (6, .int .u64 ((bs.getD 0 0).toNat : Int)), (17, .bool (decide (253 ≤ ((bs.getD 0 0).toNat : Int))))] (by kernel_rfl) rfl ?_
    refine GL.k rfl hK16 (fun _ _ h => h) ?_
    cases hb17 : (decide (253 ≤ ((bs.getD 0 0).toNat : Int)))
    · skip
      have hb17f := of_decide_eq_false hb17
      have hb0 := UInt8.toNat_lt (bs.getD 0 0)
      have hcn : cnN bs = 0 := by unfold cnN; rw [if_pos (by omega)]
      refine G.no rfl ?_
      refine G.skipK hK14 (fun _ _ h => h) ?_
      refine G.seqK fun K18 hK19 => ?_
      refine G.region ?_
      refine GL.run (j := 3) 3 [5, 32, 33, 34] [(5, .int .i64 1), (32, .int .u64 ((bs.getD 0 0).toNat : Int)), (33, .int .i64 1), (34, .int .u64 ((bs.getD 0 0).toNat : Int))] (by kernel_rfl) rfl ?_
      have hcA20 := cntSz_le ((bs.getD 0 0).toNat)
      refine GL.call (j := 4) (RCnt_calls ((bs.getD 0 0).toNat) (by omega) w) (by kernel_rfl) rfl (fun e_ w24 hR => ?_)
      obtain ⟨A20, c21, rfl, H23⟩ := hR
      have H22 : Hp w [] [.row A20 (cntSz ((bs.getD 0 0).toNat)) c21 5 1 (by8 (cnt ((bs.getD 0 0).toNat)))] w24 := H.callNew H23
      refine ⟨_, rfl, [5, 32, 33, 35], [(5, .int .i64 1), (32, .int .u64 ((bs.getD 0 0).toNat : Int)), (33, .int .i64 1), (35, .slice A20 (cntSz ((bs.getD 0 0).toNat)) c21)], by kernel_rfl, ?_⟩
      refine GL.run (j := 10) 6 [2, 3, 4] [(2, .int .u64 ((bs.getD 0 0).toNat : Int)), (3, .int .i64 1), (4, .bool ((((cntSz ((bs.getD 0 0).toNat)) : Nat) : Int) == 1))] (by kernel_rfl) rfl ?_
      refine GL.k rfl hK19 (fun _ _ h => h) ?_
      refine G.ret ?_
      intro F_ hF_ hM_
      refine hRet _ _ (bodyPost_3 rfl (RV.tmp rfl) (RV.tmp rfl) (RV.tmp rfl) ?_ F_ hF_ hM_)
      have e1 : cnX bs = (bs.getD 0 0).toNat := by unfold cnX; rw [if_pos (by omega)]
      have e0 : (((((cntSz ((bs.getD 0 0).toNat)) : Nat) : Int) == 1) : Bool) = cnOK bs := by
        unfold cnOK
        rw [decide_eq_true (show bs.length ≠ 0 by omega), decide_eq_true (show cnN bs + 1 ≤ bs.length by omega), e1, hcn, Bool.eq_iff_iff]
        simp only [beq_iff_eq, Bool.true_and, decide_eq_true_eq]
        omega
      rw [e0]
      exact ⟨_, _, rfl, fun _ => ⟨e1.symm, by rw [hcn]⟩, H22.sub (List.nil_sublist _)⟩
    · skip
      have hb17f := of_decide_eq_true hb17
      have hb0 := UInt8.toNat_lt (bs.getD 0 0)
      have hcn : cnN bs = 2 * 2 ^ ((bs.getD 0 0).toNat - 253) := by unfold cnN; rw [if_neg (by omega)]
      have h28 : 2 * 2 ^ ((bs.getD 0 0).toNat - 253) = 2 ∨ 2 * 2 ^ ((bs.getD 0 0).toNat - 253) = 4 ∨ 2 * 2 ^ ((bs.getD 0 0).toNat - 253) = 8 := by
        have : (bs.getD 0 0).toNat - 253 = 0 ∨ (bs.getD 0 0).toNat - 253 = 1 ∨ (bs.getD 0 0).toNat - 253 = 2 := by omega
        rcases this with h | h | h <;> rw [h] <;> decide
      refine G.yes rfl ?_
      refine G.seqK fun K25 hK26 => ?_
      refine G.region ?_
      refine GL.run (j := 1) 1 [0, 18] [(0, .slice A n c), (18, .slice A n c)] (by kernel_rfl) rfl ?_
      refine GL.sem (j := 2) (run_idxRd (P := Try.prog) (k := .i64) (t := 26) (A := A) (len := n) (cap := c) (j := 0) (by kernel_rfl) rfl (hx.hp H) (by rw [by8_length]; omega) (by omega)) [0, 19] [(0, .slice A n c), (19, .pointer (Option.map (fun x => Addr.add x 0) A))] (by kernel_rfl) (by kernel_rfl) rfl ?_
      refine GL.sem (j := 3) (run_ldRd (P := Try.prog) (ty := 5) (A := A) (j := 0) (v := .int .u8 ((bs.getD 0 0).toNat : Int)) (by kernel_rfl) (hx.hp H) (by8_at (getD8 (by omega)))) [0, 20] [(0, .slice A n c), (20, .int .u8 ((bs.getD 0 0).toNat : Int))] (by kernel_rfl) (by kernel_rfl) rfl ?_
      refine GL.run (j := 4) 1 [0, 21] [(0, .slice A n c), (21, .int .u8 (IntKind.u8.wrap (((bs.getD 0 0).toNat : Int) - 253)))] (by kernel_rfl) rfl ?_
      have e27 : (IntKind.u8.wrap (((bs.getD 0 0).toNat : Int) - 253)) = (((bs.getD 0 0).toNat - 253 : Nat) : Int) := by rw [in_u8 (by omega)]; omega
      refine GL.eq (M' := [(0, .slice A n c), (21, .int .u8 (((bs.getD 0 0).toNat - 253 : Nat) : Int))]) (by rw [e27]) ?_
      clear e27
      refine GL.sem (j := 5) (run_shl_i (P := Try.prog) (k' := .u8) (t := 3) (a := 2) (r := (bs.getD 0 0).toNat - 253) (by omega) _) [0, 22] [(0, .slice A n c), (22, .int .i64 ((2 * 2 ^ ((bs.getD 0 0).toNat - 253) : Nat) : Int))] (by kernel_rfl) (by kernel_rfl) rfl ?_
      refine GL.run (j := 7) 2 [0, 5] [(0, .slice A n c), (5, .int .i64 (IntKind.i64.wrap (1 + ((2 * 2 ^ ((bs.getD 0 0).toNat - 253) : Nat) : Int))))] (by kernel_rfl) rfl ?_
      have e28 : (IntKind.i64.wrap (1 + ((2 * 2 ^ ((bs.getD 0 0).toNat - 253) : Nat) : Int))) = ((2 * 2 ^ ((bs.getD 0 0).toNat - 253) + 1 : Nat) : Int) := by rw [in_i64 (by omega)]; omega
      refine GL.eq (M' := [(0, .slice A n c), (5, .int .i64 ((2 * 2 ^ ((bs.getD 0 0).toNat - 253) + 1 : Nat) : Int))]) (by rw [e28]) ?_
      clear e28
      refine GL.k rfl hK26 (fun _ _ h => h) ?_
      refine G.seqK fun K29 hK30 => ?_
      refine G.seqK fun K31 hK32 => ?_
      refine G.region ?_
      refine GL.run (j := 4) 4 [0, 5, 27] [(0, .slice A n c), (5, .int .i64 ((2 * 2 ^ ((bs.getD 0 0).toNat - 253) + 1 : Nat) : Int)), (27, .bool (decide ((n : Int) < ((2 * 2 ^ ((bs.getD 0 0).toNat - 253) + 1 : Nat) : Int))))] (by kernel_rfl) rfl ?_
      refine GL.k rfl hK32 (fun _ _ h => h) ?_
      cases hb33 : (decide ((n : Int) < ((2 * 2 ^ ((bs.getD 0 0).toNat - 253) + 1 : Nat) : Int)))
      · skip
        have hb33f := of_decide_eq_false hb33
        refine G.no rfl ?_
        refine G.skipK hK30 (fun _ _ h => h) ?_
        refine G.region ?_
        refine GL.run (j := 2) 2 [5, 28, 29] [(5, .int .i64 ((2 * 2 ^ ((bs.getD 0 0).toNat - 253) + 1 : Nat) : Int)), (28, .slice A n c), (29, .int .i64 ((2 * 2 ^ ((bs.getD 0 0).toNat - 253) + 1 : Nat) : Int))] (by kernel_rfl) rfl ?_
        refine GL.sem (j := 3) (run_sliceSl (P := Try.prog) (lo := some (.int .i64 1)) (hi := some (.int .i64 ((2 * 2 ^ ((bs.getD 0 0).toNat - 253) + 1 : Nat) : Int))) (t := 26) (len := n) (cap := c) (A := A) (l := 1) (h := 2 * 2 ^ ((bs.getD 0 0).toNat - 253) + 1) (by kernel_rfl) (Or.inr ⟨_, _, rfl, rfl⟩) (Or.inr ⟨_, _, rfl, rfl⟩) (by omega) (by omega)) [5, 30] [(5, .int .i64 ((2 * 2 ^ ((bs.getD 0 0).toNat - 253) + 1 : Nat) : Int)), (30, .slice (if c = 1 then A else Option.map (fun x => Addr.add x 1) A) (2 * 2 ^ ((bs.getD 0 0).toNat - 253) + 1 - 1) (c - 1))] (by kernel_rfl) (by kernel_rfl) rfl ?_
        refine GL.call (j := 4) (RGet_calls ((bs.take (2 * 2 ^ ((bs.getD 0 0).toNat - 253) + 1)).drop 1) (if c = 1 then A else Option.map (fun x => Addr.add x 1) A) (2 * 2 ^ ((bs.getD 0 0).toNat - 253) + 1 - 1) (c - 1) w (RdS.cut8 (cap := c) (hx.hp H) 1 (2 * 2 ^ ((bs.getD 0 0).toNat - 253) + 1) (cs := ((bs.take (2 * 2 ^ ((bs.getD 0 0).toNat - 253) + 1)).drop 1)) (by omega) rfl) (by rw [List.length_drop, List.length_take]; omega) (by rw [Nat.add_sub_cancel]; omega)) (by kernel_rfl) rfl (fun e_ w34 hR => ?_)
        obtain ⟨rfl, H36⟩ := hR
        have H35 : Hp w [] [] w34 := H.callNil H36
        refine ⟨_, rfl, [5, 31], [(5, .int .i64 ((2 * 2 ^ ((bs.getD 0 0).toNat - 253) + 1 : Nat) : Int)), (31, .int .u64 (((getB ((bs.take (2 * 2 ^ ((bs.getD 0 0).toNat - 253) + 1)).drop 1)) : Nat) : Int))], by kernel_rfl, ?_⟩
        refine GL.run (j := 5) 1 [5, 6] [(5, .int .i64 ((2 * 2 ^ ((bs.getD 0 0).toNat - 253) + 1 : Nat) : Int)), (6, .int .u64 (((getB ((bs.take (2 * 2 ^ ((bs.getD 0 0).toNat - 253) + 1)).drop 1)) : Nat) : Int))] (by kernel_rfl) rfl ?_
        refine GL.k rfl hK14 (fun _ _ h => h) ?_
        refine G.seqK fun K37 hK38 => ?_
        refine G.region ?_
        refine GL.run (j := 3) 3 [5, 32, 33, 34] [(5, .int .i64 ((2 * 2 ^ ((bs.getD 0 0).toNat - 253) + 1 : Nat) : Int)), (32, .int .u64 (((getB ((bs.take (2 * 2 ^ ((bs.getD 0 0).toNat - 253) + 1)).drop 1)) : Nat) : Int)), (33, .int .i64 ((2 * 2 ^ ((bs.getD 0 0).toNat - 253) + 1 : Nat) : Int)), (34, .int .u64 (((getB ((bs.take (2 * 2 ^ ((bs.getD 0 0).toNat - 253) + 1)).drop 1)) : Nat) : Int))] (by kernel_rfl) rfl ?_
        have hcA39 := cntSz_le (getB ((bs.take (2 * 2 ^ ((bs.getD 0 0).toNat - 253) + 1)).drop 1))
        refine GL.call (j := 4) (RCnt_calls (getB ((bs.take (2 * 2 ^ ((bs.getD 0 0).toNat - 253) + 1)).drop 1)) (Nat.lt_of_lt_of_le (getB_lt _) (Nat.le_trans (Nat.pow_le_pow_right (by decide) (show _ ≤ 8 by rw [List.length_drop, List.length_take]; omega)) (by decide))) w34) (by kernel_rfl) rfl (fun e_ w43 hR => ?_)
        obtain ⟨A39, c40, rfl, H42⟩ := hR
        have H41 : Hp w [] [.row A39 (cntSz (getB ((bs.take (2 * 2 ^ ((bs.getD 0 0).toNat - 253) + 1)).drop 1))) c40 5 1 (by8 (cnt (getB ((bs.take (2 * 2 ^ ((bs.getD 0 0).toNat - 253) + 1)).drop 1))))] w43 := H35.callNew H42
        refine ⟨_, rfl, [5, 32, 33, 35], [(5, .int .i64 ((2 * 2 ^ ((bs.getD 0 0).toNat - 253) + 1 : Nat) : Int)), (32, .int .u64 (((getB ((bs.take (2 * 2 ^ ((bs.getD 0 0).toNat - 253) + 1)).drop 1)) : Nat) : Int)), (33, .int .i64 ((2 * 2 ^ ((bs.getD 0 0).toNat - 253) + 1 : Nat) : Int)), (35, .slice A39 (cntSz (getB ((bs.take (2 * 2 ^ ((bs.getD 0 0).toNat - 253) + 1)).drop 1))) c40)], by kernel_rfl, ?_⟩
        refine GL.run (j := 10) 6 [2, 3, 4] [(2, .int .u64 (((getB ((bs.take (2 * 2 ^ ((bs.getD 0 0).toNat - 253) + 1)).drop 1)) : Nat) : Int)), (3, .int .i64 ((2 * 2 ^ ((bs.getD 0 0).toNat - 253) + 1 : Nat) : Int)), (4, .bool ((((cntSz (getB ((bs.take (2 * 2 ^ ((bs.getD 0 0).toNat - 253) + 1)).drop 1))) : Nat) : Int) == ((2 * 2 ^ ((bs.getD 0 0).toNat - 253) + 1 : Nat) : Int)))] (by kernel_rfl) rfl ?_
        refine GL.k rfl hK38 (fun _ _ h => h) ?_
        refine G.ret ?_
        intro F_ hF_ hM_
        refine hRet _ _ (bodyPost_3 rfl (RV.tmp rfl) (RV.tmp rfl) (RV.tmp rfl) ?_ F_ hF_ hM_)
        have e1 : cnX bs = (getB ((bs.take (2 * 2 ^ ((bs.getD 0 0).toNat - 253) + 1)).drop 1)) := by unfold cnX; rw [if_neg (by omega), hcn]
        have e0 : (((((cntSz (getB ((bs.take (2 * 2 ^ ((bs.getD 0 0).toNat - 253) + 1)).drop 1))) : Nat) : Int) == ((2 * 2 ^ ((bs.getD 0 0).toNat - 253) + 1 : Nat) : Int)) : Bool) = cnOK bs := by
          unfold cnOK
          rw [decide_eq_true (show bs.length ≠ 0 by omega), decide_eq_true (show cnN bs + 1 ≤ bs.length by omega), e1, hcn, Bool.eq_iff_iff]
          simp only [beq_iff_eq, Bool.true_and, decide_eq_true_eq]
          omega
        rw [e0]
        exact ⟨_, _, rfl, fun _ => ⟨e1.symm, by rw [hcn]⟩, H41.sub (List.nil_sublist _)⟩
      · skip
        have hb33f := of_decide_eq_true hb33
        refine G.yes rfl ?_
        refine G.seqK fun K44 hK45 => ?_
        refine G.region ?_
        refine GL.run (j := 3) 3 [2, 3, 4] [(2, .int .u64 0), (3, .int .i64 0), (4, .bool false)] (by kernel_rfl) rfl ?_
        refine GL.k rfl hK45 (fun _ _ h => h) ?_
        refine G.ret ?_
        intro F_ hF_ hM_
        refine hRet _ _ (bodyPost_3 rfl (RV.tmp rfl) (RV.tmp rfl) (RV.tmp rfl) ?_ F_ hF_ hM_)
        have e0 : cnOK bs = false := by
          unfold cnOK
          rw [decide_eq_false (show ¬ cnN bs + 1 ≤ bs.length by omega)]; simp
        rw [e0]
        exact ⟨0, 0, rfl, (fun h => by cases h), H.sub (List.nil_sublist _)⟩
  · skip
    have hb7f := eq_of_beq hb7
    refine G.yes rfl ?_
    refine G.seqK fun K46 hK47 => ?_
    refine G.region ?_
    refine GL.run (j := 3) 3 [2, 3, 4] [(2, .int .u64 0), (3, .int .i64 0), (4, .bool false)] (by kernel_rfl) rfl ?_
    refine GL.k rfl hK47 (fun _ _ h => h) ?_
    refine G.ret ?_
    intro F_ hF_ hM_
    refine hRet _ _ (bodyPost_3 rfl (RV.tmp rfl) (RV.tmp rfl) (RV.tmp rfl) ?_ F_ hF_ hM_)
    have e0 : cnOK bs = false := by
      unfold cnOK
      rw [decide_eq_false (show ¬ bs.length ≠ 0 by omega)]; rfl
    rw [e0]
    exact ⟨0, 0, rfl, (fun h => by cases h), H.sub (List.nil_sublist _)⟩
end Go.Proofs.Ytkfhcogdpmndkaa
namespace Go.Proofs.Ytkfhcogdpmndkaa
open Go.RowKit
theorem put1 (b : UInt8) : putB b.toNat 1 = [b] := by
  have := putB_get [b]
  rwa [show getB [b] = b.toNat by simp [getB]] at this
theorem ad_cell {x0 x1 x2 x3 x4 y z : Value} (ad : Nat → UInt8) {j : Nat} (h : j < 20) : ([x0, x1, x2, x3, x4, .int .u8 ((ad 0).toNat : Int), .int .u8 ((ad 1).toNat : Int), .int .u8 ((ad 2).toNat : Int), .int .u8 ((ad 3).toNat : Int), .int .u8 ((ad 4).toNat : Int), .int .u8 ((ad 5).toNat : Int), .int .u8 ((ad 6).toNat : Int), .int .u8 ((ad 7).toNat : Int), .int .u8 ((ad 8).toNat : Int), .int .u8 ((ad 9).toNat : Int), .int .u8 ((ad 10).toNat : Int), .int .u8 ((ad 11).toNat : Int), .int .u8 ((ad 12).toNat : Int), .int .u8 ((ad 13).toNat : Int), .int .u8 ((ad 14).toNat : Int), .int .u8 ((ad 15).toNat : Int), .int .u8 ((ad 16).toNat : Int), .int .u8 ((ad 17).toNat : Int), .int .u8 ((ad 18).toNat : Int), .int .u8 ((ad 19).toNat : Int), y, z] : List Value)[5 + j * 1]? = some (.int .u8 ((ad j).toNat : Int)) := by
  rw [show 5 + j * 1 = j + 1 + 1 + 1 + 1 + 1 by omega]
  simp only [List.getElem?_cons_succ]
  have e : ([.int .u8 ((ad 0).toNat : Int), .int .u8 ((ad 1).toNat : Int), .int .u8 ((ad 2).toNat : Int), .int .u8 ((ad 3).toNat : Int), .int .u8 ((ad 4).toNat : Int), .int .u8 ((ad 5).toNat : Int), .int .u8 ((ad 6).toNat : Int), .int .u8 ((ad 7).toNat : Int), .int .u8 ((ad 8).toNat : Int), .int .u8 ((ad 9).toNat : Int), .int .u8 ((ad 10).toNat : Int), .int .u8 ((ad 11).toNat : Int), .int .u8 ((ad 12).toNat : Int), .int .u8 ((ad 13).toNat : Int), .int .u8 ((ad 14).toNat : Int), .int .u8 ((ad 15).toNat : Int), .int .u8 ((ad 16).toNat : Int), .int .u8 ((ad 17).toNat : Int), .int .u8 ((ad 18).toNat : Int), .int .u8 ((ad 19).toNat : Int), y, z] : List Value) = (List.range 20).map (fun i => Value.int .u8 ((ad i).toNat : Int)) ++ [y, z] := rfl
  rw [e, List.getElem?_append_left (by simp; exact h), List.getElem?_map, List.getElem?_range h]
  rfl
set_option maxHeartbeats 4000000 in
theorem RBytes27_calls (o wh t : UInt8) (am id : Nat) (ad : Nat → UInt8) (ag : Bool) (bd : List UInt8) (w : World) (ham : am < K) (hid : id < K) (hbc : bd.length ≤ 9000) : Calls Try.prog 15 #[.agg #[.int .u8 (o.toNat : Int), .int .u8 (wh.toNat : Int), .int .u8 (t.toNat : Int), .int .u64 (am : Int), .int .u64 (id : Int), .int .u8 ((ad 0).toNat : Int), .int .u8 ((ad 1).toNat : Int), .int .u8 ((ad 2).toNat : Int), .int .u8 ((ad 3).toNat : Int), .int .u8 ((ad 4).toNat : Int), .int .u8 ((ad 5).toNat : Int), .int .u8 ((ad 6).toNat : Int), .int .u8 ((ad 7).toNat : Int), .int .u8 ((ad 8).toNat : Int), .int .u8 ((ad 9).toNat : Int), .int .u8 ((ad 10).toNat : Int), .int .u8 ((ad 11).toNat : Int), .int .u8 ((ad 12).toNat : Int), .int .u8 ((ad 13).toNat : Int), .int .u8 ((ad 14).toNat : Int), .int .u8 ((ad 15).toNat : Int), .int .u8 ((ad 16).toNat : Int), .int .u8 ((ad 17).toNat : Int), .int .u8 ((ad 18).toNat : Int), .int .u8 ((ad 19).toNat : Int), .bool ag, .string (strOf bd)]] w fun e w' => ∃ A n c, e = .returned (.slice A n c) ∧ Hp w [] [.row A n c 5 1 (by8 (cmdB o wh t am id ad ag bd))] w' := by
  refine calls_G (args := [.agg #[.int .u8 (o.toNat : Int), .int .u8 (wh.toNat : Int), .int .u8 (t.toNat : Int), .int .u64 (am : Int), .int .u64 (id : Int), .int .u8 ((ad 0).toNat : Int), .int .u8 ((ad 1).toNat : Int), .int .u8 ((ad 2).toNat : Int), .int .u8 ((ad 3).toNat : Int), .int .u8 ((ad 4).toNat : Int), .int .u8 ((ad 5).toNat : Int), .int .u8 ((ad 6).toNat : Int), .int .u8 ((ad 7).toNat : Int), .int .u8 ((ad 8).toNat : Int), .int .u8 ((ad 9).toNat : Int), .int .u8 ((ad 10).toNat : Int), .int .u8 ((ad 11).toNat : Int), .int .u8 ((ad 12).toNat : Int), .int .u8 ((ad 13).toNat : Int), .int .u8 ((ad 14).toNat : Int), .int .u8 ((ad 15).toNat : Int), .int .u8 ((ad 16).toNat : Int), .int .u8 ((ad 17).toNat : Int), .int .u8 ((ad 18).toNat : Int), .int .u8 ((ad 19).toNat : Int), .bool ag, .string (strOf bd)]]) Try.func15 rfl Try.ntmps15 rfl ?_
  intro Q0 hRet hNor hPan
  have H := Hp.start w
  have H : Hp w [] [] w := H
  refine G.seqK fun K1 hK2 => ?_
  refine G.region ?_
  obtain ⟨p3, w4, r5, H6⟩ := H.box (P := Try.prog) 34 [.int .u8 (o.toNat : Int), .int .u8 (wh.toNat : Int), .int .u8 (t.toNat : Int), .int .u64 (am : Int), .int .u64 (id : Int), .int .u8 ((ad 0).toNat : Int), .int .u8 ((ad 1).toNat : Int), .int .u8 ((ad 2).toNat : Int), .int .u8 ((ad 3).toNat : Int), .int .u8 ((ad 4).toNat : Int), .int .u8 ((ad 5).toNat : Int), .int .u8 ((ad 6).toNat : Int), .int .u8 ((ad 7).toNat : Int), .int .u8 ((ad 8).toNat : Int), .int .u8 ((ad 9).toNat : Int), .int .u8 ((ad 10).toNat : Int), .int .u8 ((ad 11).toNat : Int), .int .u8 ((ad 12).toNat : Int), .int .u8 ((ad 13).toNat : Int), .int .u8 ((ad 14).toNat : Int), .int .u8 ((ad 15).toNat : Int), .int .u8 ((ad 16).toNat : Int), .int .u8 ((ad 17).toNat : Int), .int .u8 ((ad 18).toNat : Int), .int .u8 ((ad 19).toNat : Int), .bool ag, .string (strOf bd)] (.agg #[.int .u8 (o.toNat : Int), .int .u8 (wh.toNat : Int), .int .u8 (t.toNat : Int), .int .u64 (am : Int), .int .u64 (id : Int), .int .u8 ((ad 0).toNat : Int), .int .u8 ((ad 1).toNat : Int), .int .u8 ((ad 2).toNat : Int), .int .u8 ((ad 3).toNat : Int), .int .u8 ((ad 4).toNat : Int), .int .u8 ((ad 5).toNat : Int), .int .u8 ((ad 6).toNat : Int), .int .u8 ((ad 7).toNat : Int), .int .u8 ((ad 8).toNat : Int), .int .u8 ((ad 9).toNat : Int), .int .u8 ((ad 10).toNat : Int), .int .u8 ((ad 11).toNat : Int), .int .u8 ((ad 12).toNat : Int), .int .u8 ((ad 13).toNat : Int), .int .u8 ((ad 14).toNat : Int), .int .u8 ((ad 15).toNat : Int), .int .u8 ((ad 16).toNat : Int), .int .u8 ((ad 17).toNat : Int), .int .u8 ((ad 18).toNat : Int), .int .u8 ((ad 19).toNat : Int), .bool ag, .string (strOf bd)]) rfl
  have H6 : Hp w [] [.blk p3 [.int .u8 (o.toNat : Int), .int .u8 (wh.toNat : Int), .int .u8 (t.toNat : Int), .int .u64 (am : Int), .int .u64 (id : Int), .int .u8 ((ad 0).toNat : Int), .int .u8 ((ad 1).toNat : Int), .int .u8 ((ad 2).toNat : Int), .int .u8 ((ad 3).toNat : Int), .int .u8 ((ad 4).toNat : Int), .int .u8 ((ad 5).toNat : Int), .int .u8 ((ad 6).toNat : Int), .int .u8 ((ad 7).toNat : Int), .int .u8 ((ad 8).toNat : Int), .int .u8 ((ad 9).toNat : Int), .int .u8 ((ad 10).toNat : Int), .int .u8 ((ad 11).toNat : Int), .int .u8 ((ad 12).toNat : Int), .int .u8 ((ad 13).toNat : Int), .int .u8 ((ad 14).toNat : Int), .int .u8 ((ad 15).toNat : Int), .int .u8 ((ad 16).toNat : Int), .int .u8 ((ad 17).toNat : Int), .int .u8 ((ad 18).toNat : Int), .int .u8 ((ad 19).toNat : Int), .bool ag, .string (strOf bd)] 34] w4 := H6
  refine GL.sem (j := 1) (r5) [1] [(1, pt p3 0)] (by kernel_rfl) (by kernel_rfl) rfl ?_
  refine GL.run (j := 2) 1 [1] [(1, pt p3 0)] (by kernel_rfl) rfl ?_
  refine GL.k rfl hK2 (fun _ _ h => h) ?_
  refine G.seqK fun K7 hK8 => ?_
  refine G.region ?_
  refine GL.run (j := 1) 1 [1, 5] [(1, pt p3 0), (5, pt p3 0)] (by kernel_rfl) rfl ?_
  refine GL.sem (j := 2) (H6.ld (o := 0) (ty := 5) (v := .int .u8 (o.toNat : Int)) 0 rfl (by kernel_rfl) rfl) [1, 6] [(1, pt p3 0), (6, .int .u8 (o.toNat : Int))] (by kernel_rfl) (by kernel_rfl) rfl ?_
  obtain ⟨p9, w10, r11, H12⟩ := H6.madeRow (P := Try.prog) (Instr.buildSlice 26 1 #[(0, .int .u8 (o.toNat : Int))]) (fun b_ => .slice (some ⟨b_, 0, none⟩) 1 1) [.int .u8 (o.toNat : Int)] 5 1 1 1 (by kernel_rfl) (by decide) (by decide) rfl
  have H12 : Hp w [] [.blk p3 [.int .u8 (o.toNat : Int), .int .u8 (wh.toNat : Int), .int .u8 (t.toNat : Int), .int .u64 (am : Int), .int .u64 (id : Int), .int .u8 ((ad 0).toNat : Int), .int .u8 ((ad 1).toNat : Int), .int .u8 ((ad 2).toNat : Int), .int .u8 ((ad 3).toNat : Int), .int .u8 ((ad 4).toNat : Int), .int .u8 ((ad 5).toNat : Int), .int .u8 ((ad 6).toNat : Int), .int .u8 ((ad 7).toNat : Int), .int .u8 ((ad 8).toNat : Int), .int .u8 ((ad 9).toNat : Int), .int .u8 ((ad 10).toNat : Int), .int .u8 ((ad 11).toNat : Int), .int .u8 ((ad 12).toNat : Int), .int .u8 ((ad 13).toNat : Int), .int .u8 ((ad 14).toNat : Int), .int .u8 ((ad 15).toNat : Int), .int .u8 ((ad 16).toNat : Int), .int .u8 ((ad 17).toNat : Int), .int .u8 ((ad 18).toNat : Int), .int .u8 ((ad 19).toNat : Int), .bool ag, .string (strOf bd)] 34, .row (some ⟨p9, 0, none⟩) 1 1 5 1 (by8 ([o] : List UInt8))] w10 := H12
  refine GL.sem (j := 3) (r11) [1, 7] [(1, pt p3 0), (7, .slice (some ⟨p9, 0, none⟩) 1 1)] (by kernel_rfl) (by kernel_rfl) rfl ?_
  refine GL.run (j := 4) 1 [1, 3] [(1, pt p3 0), (3, .slice (some ⟨p9, 0, none⟩) 1 1)] (by kernel_rfl) rfl ?_
  refine GL.k rfl hK8 (fun _ _ h => h) ?_
  refine G.seqJ (X := Option Addr × Nat × Nat × List UInt8) (fun ⟨A_0, c_0, m_0, b_0⟩ => [(1, pt p3 0), (3, .slice A_0 m_0 c_0)]) (fun ⟨A_0, c_0, m_0, b_0⟩ w_ => (b_0 = ([o] : List UInt8) ++ fld o.toNat 0 (putB wh.toNat 1) ∧ m_0 ≤ 1 + 1) ∧ Hp w [] [.blk p3 [.int .u8 (o.toNat : Int), .int .u8 (wh.toNat : Int), .int .u8 (t.toNat : Int), .int .u64 (am : Int), .int .u64 (id : Int), .int .u8 ((ad 0).toNat : Int), .int .u8 ((ad 1).toNat : Int), .int .u8 ((ad 2).toNat : Int), .int .u8 ((ad 3).toNat : Int), .int .u8 ((ad 4).toNat : Int), .int .u8 ((ad 5).toNat : Int), .int .u8 ((ad 6).toNat : Int), .int .u8 ((ad 7).toNat : Int), .int .u8 ((ad 8).toNat : Int), .int .u8 ((ad 9).toNat : Int), .int .u8 ((ad 10).toNat : Int), .int .u8 ((ad 11).toNat : Int), .int .u8 ((ad 12).toNat : Int), .int .u8 ((ad 13).toNat : Int), .int .u8 ((ad 14).toNat : Int), .int .u8 ((ad 15).toNat : Int), .int .u8 ((ad 16).toNat : Int), .int .u8 ((ad 17).toNat : Int), .int .u8 ((ad 18).toNat : Int), .int .u8 ((ad 19).toNat : Int), .bool ag, .string (strOf bd)] 34, .row A_0 m_0 c_0 5 1 (by8 b_0)] w_) (fun J13 K14 hK15 => ?_) ?_
  · skip
    refine G.seqK fun K16 hK17 => ?_
    refine G.region ?_
    refine GL.run (j := 1) 1 [1, 3, 8] [(1, pt p3 0), (3, .slice (some ⟨p9, 0, none⟩) 1 1), (8, pt p3 0)] (by kernel_rfl) rfl ?_
    refine GL.sem (j := 2) (H12.ld (o := 0) (ty := 5) (v := .int .u8 (o.toNat : Int)) 0 rfl (by kernel_rfl) rfl) [1, 3, 9] [(1, pt p3 0), (3, .slice (some ⟨p9, 0, none⟩) 1 1), (9, .int .u8 (o.toNat : Int))] (by kernel_rfl) (by kernel_rfl) rfl ?_
    refine GL.call (j := 3) (uses_calls o 119 w10) (by kernel_rfl) rfl (fun e_ w18 hR => ?_)
    obtain ⟨rfl, H20⟩ := hR
    have H19 : Hp w [] [.blk p3 [.int .u8 (o.toNat : Int), .int .u8 (wh.toNat : Int), .int .u8 (t.toNat : Int), .int .u64 (am : Int), .int .u64 (id : Int), .int .u8 ((ad 0).toNat : Int), .int .u8 ((ad 1).toNat : Int), .int .u8 ((ad 2).toNat : Int), .int .u8 ((ad 3).toNat : Int), .int .u8 ((ad 4).toNat : Int), .int .u8 ((ad 5).toNat : Int), .int .u8 ((ad 6).toNat : Int), .int .u8 ((ad 7).toNat : Int), .int .u8 ((ad 8).toNat : Int), .int .u8 ((ad 9).toNat : Int), .int .u8 ((ad 10).toNat : Int), .int .u8 ((ad 11).toNat : Int), .int .u8 ((ad 12).toNat : Int), .int .u8 ((ad 13).toNat : Int), .int .u8 ((ad 14).toNat : Int), .int .u8 ((ad 15).toNat : Int), .int .u8 ((ad 16).toNat : Int), .int .u8 ((ad 17).toNat : Int), .int .u8 ((ad 18).toNat : Int), .int .u8 ((ad 19).toNat : Int), .bool ag, .string (strOf bd)] 34, .row (some ⟨p9, 0, none⟩) 1 1 5 1 (by8 ([o] : List UInt8))] w18 := H12.callNil H20
    refine ⟨_, rfl, [1, 3, 10], [(1, pt p3 0), (3, .slice (some ⟨p9, 0, none⟩) 1 1), (10, .bool (hasF o.toNat 119))], by kernel_rfl, ?_⟩
    refine GL.k rfl hK17 (fun _ _ h => h) ?_
    cases hb21 : (hasF o.toNat 119)
    · skip
      have hbit0 : ¬ fm o.toNat / 2 ^ 0 % 2 = 1 := fun h_ => by rw [(has_bits _).1.2 h_] at hb21; cases hb21
      refine G.no rfl ?_
      refine G.skipK hK15 (fun _ _ h => h) ?_
      refine G.fit [1, 3] (M' := [(1, pt p3 0), (3, .slice (some ⟨p9, 0, none⟩) 1 1)]) (by kernel_rfl) ?_
      exact J13 ⟨(some ⟨p9, 0, none⟩), 1, 1, ([o] : List UInt8)⟩ _ ⟨⟨by rw [fld, if_neg hbit0, List.append_nil], by omega⟩, H19⟩
    · skip
      have hbit0 : fm o.toNat / 2 ^ 0 % 2 = 1 := (has_bits _).1.1 hb21
      refine G.yes rfl ?_
      refine G.region ?_
      refine GL.run (j := 2) 2 [1, 11, 12] [(1, pt p3 0), (11, .slice (some ⟨p9, 0, none⟩) 1 1), (12, pt p3 1)] (by kernel_rfl) rfl ?_
      refine GL.sem (j := 3) (H19.ld (o := 1) (ty := 5) (v := .int .u8 (wh.toNat : Int)) 0 rfl (by kernel_rfl) rfl) [1, 11, 13] [(1, pt p3 0), (11, .slice (some ⟨p9, 0, none⟩) 1 1), (13, .int .u8 (wh.toNat : Int))] (by kernel_rfl) (by kernel_rfl) rfl ?_
      obtain ⟨p23, w24, r25, H26⟩ := H19.madeRow (P := Try.prog) (Instr.buildSlice 26 1 #[(0, .int .u8 (wh.toNat : Int))]) (fun b_ => .slice (some ⟨b_, 0, none⟩) 1 1) [.int .u8 (wh.toNat : Int)] 5 1 1 1 (by kernel_rfl) (by decide) (by decide) rfl
      have H26 : Hp w [] [.blk p3 [.int .u8 (o.toNat : Int), .int .u8 (wh.toNat : Int), .int .u8 (t.toNat : Int), .int .u64 (am : Int), .int .u64 (id : Int), .int .u8 ((ad 0).toNat : Int), .int .u8 ((ad 1).toNat : Int), .int .u8 ((ad 2).toNat : Int), .int .u8 ((ad 3).toNat : Int), .int .u8 ((ad 4).toNat : Int), .int .u8 ((ad 5).toNat : Int), .int .u8 ((ad 6).toNat : Int), .int .u8 ((ad 7).toNat : Int), .int .u8 ((ad 8).toNat : Int), .int .u8 ((ad 9).toNat : Int), .int .u8 ((ad 10).toNat : Int), .int .u8 ((ad 11).toNat : Int), .int .u8 ((ad 12).toNat : Int), .int .u8 ((ad 13).toNat : Int), .int .u8 ((ad 14).toNat : Int), .int .u8 ((ad 15).toNat : Int), .int .u8 ((ad 16).toNat : Int), .int .u8 ((ad 17).toNat : Int), .int .u8 ((ad 18).toNat : Int), .int .u8 ((ad 19).toNat : Int), .bool ag, .string (strOf bd)] 34, .row (some ⟨p9, 0, none⟩) 1 1 5 1 (by8 ([o] : List UInt8)), .row (some ⟨p23, 0, none⟩) 1 1 5 1 (by8 ([wh] : List UInt8))] w24 := H26
      refine GL.sem (j := 4) (r25) [1, 11, 14] [(1, pt p3 0), (11, .slice (some ⟨p9, 0, none⟩) 1 1), (14, .slice (some ⟨p23, 0, none⟩) 1 1)] (by kernel_rfl) (by kernel_rfl) rfl ?_
      obtain ⟨A27, c28, w29, r30, H31⟩ := H26.append (P := Try.prog) (e := 5) (sz := 1) (by_ := 1) (n := 1) (c := 1) (m := 1) (d := 1) (t := 26) (ty := 26) (xs := by8 ([o] : List UInt8)) (news := by8 ([wh] : List UInt8)) 1 rfl (by kernel_rfl) (H26.rdRow 2 rfl) (by first | (simp [by8_length]; done) | (rw [by8_length]; omega) | (rw [by8_length, putB_length])) (by8_one _) (by omega) (by simp only [maxLen]; omega)
      rw [← by8_append] at H31
      have H31 : Hp w [] [.blk p3 [.int .u8 (o.toNat : Int), .int .u8 (wh.toNat : Int), .int .u8 (t.toNat : Int), .int .u64 (am : Int), .int .u64 (id : Int), .int .u8 ((ad 0).toNat : Int), .int .u8 ((ad 1).toNat : Int), .int .u8 ((ad 2).toNat : Int), .int .u8 ((ad 3).toNat : Int), .int .u8 ((ad 4).toNat : Int), .int .u8 ((ad 5).toNat : Int), .int .u8 ((ad 6).toNat : Int), .int .u8 ((ad 7).toNat : Int), .int .u8 ((ad 8).toNat : Int), .int .u8 ((ad 9).toNat : Int), .int .u8 ((ad 10).toNat : Int), .int .u8 ((ad 11).toNat : Int), .int .u8 ((ad 12).toNat : Int), .int .u8 ((ad 13).toNat : Int), .int .u8 ((ad 14).toNat : Int), .int .u8 ((ad 15).toNat : Int), .int .u8 ((ad 16).toNat : Int), .int .u8 ((ad 17).toNat : Int), .int .u8 ((ad 18).toNat : Int), .int .u8 ((ad 19).toNat : Int), .bool ag, .string (strOf bd)] 34, .row A27 2 c28 5 1 (by8 ([o, wh] : List UInt8)), .row (some ⟨p23, 0, none⟩) 1 1 5 1 (by8 ([wh] : List UInt8))] w29 := H31
      refine GL.sem (j := 5) (r30) [1, 15] [(1, pt p3 0), (15, .slice A27 2 c28)] (by kernel_rfl) (by kernel_rfl) rfl ?_
      refine GL.run (j := 6) 1 [1, 3] [(1, pt p3 0), (3, .slice A27 2 c28)] (by kernel_rfl) rfl ?_
      refine GL.k rfl hK15 (fun _ _ h => h) ?_
      have H32 : Hp w [] [.blk p3 [.int .u8 (o.toNat : Int), .int .u8 (wh.toNat : Int), .int .u8 (t.toNat : Int), .int .u64 (am : Int), .int .u64 (id : Int), .int .u8 ((ad 0).toNat : Int), .int .u8 ((ad 1).toNat : Int), .int .u8 ((ad 2).toNat : Int), .int .u8 ((ad 3).toNat : Int), .int .u8 ((ad 4).toNat : Int), .int .u8 ((ad 5).toNat : Int), .int .u8 ((ad 6).toNat : Int), .int .u8 ((ad 7).toNat : Int), .int .u8 ((ad 8).toNat : Int), .int .u8 ((ad 9).toNat : Int), .int .u8 ((ad 10).toNat : Int), .int .u8 ((ad 11).toNat : Int), .int .u8 ((ad 12).toNat : Int), .int .u8 ((ad 13).toNat : Int), .int .u8 ((ad 14).toNat : Int), .int .u8 ((ad 15).toNat : Int), .int .u8 ((ad 16).toNat : Int), .int .u8 ((ad 17).toNat : Int), .int .u8 ((ad 18).toNat : Int), .int .u8 ((ad 19).toNat : Int), .bool ag, .string (strOf bd)] 34, .row A27 2 c28 5 1 (by8 ([o, wh] : List UInt8))] w29 := H31.sub (List.Sublist.cons_cons _ (List.Sublist.cons_cons _ (List.Sublist.cons _ (List.Sublist.slnil))))
      refine G.fit [1, 3] (M' := [(1, pt p3 0), (3, .slice A27 2 c28)]) (by kernel_rfl) ?_
      exact J13 ⟨A27, c28, 2, ([o, wh] : List UInt8)⟩ _ ⟨⟨by first | (rw [fld, if_pos hbit0, put1]; done) | (rw [fld, if_pos hbit0, put1]; rfl), by omega⟩, H32⟩
  · skip
    rintro ⟨A_0, c_0, m_0, b_0⟩ w34 ⟨hi35, H36⟩
    refine G.eq (M' := [(1, pt p3 0), (3, .slice A_0 m_0 c_0)]) rfl ?_
    have H36 : Hp w [] [.blk p3 [.int .u8 (o.toNat : Int), .int .u8 (wh.toNat : Int), .int .u8 (t.toNat : Int), .int .u64 (am : Int), .int .u64 (id : Int), .int .u8 ((ad 0).toNat : Int), .int .u8 ((ad 1).toNat : Int), .int .u8 ((ad 2).toNat : Int), .int .u8 ((ad 3).toNat : Int), .int .u8 ((ad 4).toNat : Int), .int .u8 ((ad 5).toNat : Int), .int .u8 ((ad 6).toNat : Int), .int .u8 ((ad 7).toNat : Int), .int .u8 ((ad 8).toNat : Int), .int .u8 ((ad 9).toNat : Int), .int .u8 ((ad 10).toNat : Int), .int .u8 ((ad 11).toNat : Int), .int .u8 ((ad 12).toNat : Int), .int .u8 ((ad 13).toNat : Int), .int .u8 ((ad 14).toNat : Int), .int .u8 ((ad 15).toNat : Int), .int .u8 ((ad 16).toNat : Int), .int .u8 ((ad 17).toNat : Int), .int .u8 ((ad 18).toNat : Int), .int .u8 ((ad 19).toNat : Int), .bool ag, .string (strOf bd)] 34, .row A_0 m_0 c_0 5 1 (by8 b_0)] w34 := H36
    obtain ⟨hb_0, hm_0⟩ := hi35
    refine G.seqJ (X := Option Addr × Nat × Nat × List UInt8) (fun ⟨A_1, c_1, m_1, b_1⟩ => [(1, pt p3 0), (3, .slice A_1 m_1 c_1)]) (fun ⟨A_1, c_1, m_1, b_1⟩ w_ => (b_1 = b_0 ++ fld o.toNat 1 (putB t.toNat 1) ∧ m_1 ≤ m_0 + 1) ∧ Hp w [] [.blk p3 [.int .u8 (o.toNat : Int), .int .u8 (wh.toNat : Int), .int .u8 (t.toNat : Int), .int .u64 (am : Int), .int .u64 (id : Int), .int .u8 ((ad 0).toNat : Int), .int .u8 ((ad 1).toNat : Int), .int .u8 ((ad 2).toNat : Int), .int .u8 ((ad 3).toNat : Int), .int .u8 ((ad 4).toNat : Int), .int .u8 ((ad 5).toNat : Int), .int .u8 ((ad 6).toNat : Int), .int .u8 ((ad 7).toNat : Int), .int .u8 ((ad 8).toNat : Int), .int .u8 ((ad 9).toNat : Int), .int .u8 ((ad 10).toNat : Int), .int .u8 ((ad 11).toNat : Int), .int .u8 ((ad 12).toNat : Int), .int .u8 ((ad 13).toNat : Int), .int .u8 ((ad 14).toNat : Int), .int .u8 ((ad 15).toNat : Int), .int .u8 ((ad 16).toNat : Int), .int .u8 ((ad 17).toNat : Int), .int .u8 ((ad 18).toNat : Int), .int .u8 ((ad 19).toNat : Int), .bool ag, .string (strOf bd)] 34, .row A_1 m_1 c_1 5 1 (by8 b_1)] w_) (fun J37 K38 hK39 => ?_) ?_
    · skip
      refine G.seqK fun K40 hK41 => ?_
      refine G.region ?_
      refine GL.run (j := 1) 1 [1, 3, 16] [(1, pt p3 0), (3, .slice A_0 m_0 c_0), (16, pt p3 0)] (by kernel_rfl) rfl ?_
      refine GL.sem (j := 2) (H36.ld (o := 0) (ty := 5) (v := .int .u8 (o.toNat : Int)) 0 rfl (by kernel_rfl) rfl) [1, 3, 17] [(1, pt p3 0), (3, .slice A_0 m_0 c_0), (17, .int .u8 (o.toNat : Int))] (by kernel_rfl) (by kernel_rfl) rfl ?_
      refine GL.call (j := 3) (uses_calls o 116 w34) (by kernel_rfl) rfl (fun e_ w42 hR => ?_)
      obtain ⟨rfl, H44⟩ := hR
      have H43 : Hp w [] [.blk p3 [.int .u8 (o.toNat : Int), .int .u8 (wh.toNat : Int), .int .u8 (t.toNat : Int), .int .u64 (am : Int), .int .u64 (id : Int), .int .u8 ((ad 0).toNat : Int), .int .u8 ((ad 1).toNat : Int), .int .u8 ((ad 2).toNat : Int), .int .u8 ((ad 3).toNat : Int), .int .u8 ((ad 4).toNat : Int), .int .u8 ((ad 5).toNat : Int), .int .u8 ((ad 6).toNat : Int), .int .u8 ((ad 7).toNat : Int), .int .u8 ((ad 8).toNat : Int), .int .u8 ((ad 9).toNat : Int), .int .u8 ((ad 10).toNat : Int), .int .u8 ((ad 11).toNat : Int), .int .u8 ((ad 12).toNat : Int), .int .u8 ((ad 13).toNat : Int), .int .u8 ((ad 14).toNat : Int), .int .u8 ((ad 15).toNat : Int), .int .u8 ((ad 16).toNat : Int), .int .u8 ((ad 17).toNat : Int), .int .u8 ((ad 18).toNat : Int), .int .u8 ((ad 19).toNat : Int), .bool ag, .string (strOf bd)] 34, .row A_0 m_0 c_0 5 1 (by8 b_0)] w42 := H36.callNil H44
      refine ⟨_, rfl, [1, 3, 18], [(1, pt p3 0), (3, .slice A_0 m_0 c_0), (18, .bool (hasF o.toNat 116))], by kernel_rfl, ?_⟩
      refine GL.k rfl hK41 (fun _ _ h => h) ?_
      cases hb45 : (hasF o.toNat 116)
      · skip
        have hbit1 : ¬ fm o.toNat / 2 ^ 1 % 2 = 1 := fun h_ => by rw [(has_bits _).2.1.2 h_] at hb45; cases hb45
        refine G.no rfl ?_
        refine G.skipK hK39 (fun _ _ h => h) ?_
        refine G.fit [1, 3] (M' := [(1, pt p3 0), (3, .slice A_0 m_0 c_0)]) (by kernel_rfl) ?_
        exact J37 ⟨A_0, c_0, m_0, b_0⟩ _ ⟨⟨by rw [fld, if_neg hbit1, List.append_nil], by omega⟩, H43⟩
      · skip
        have hbit1 : fm o.toNat / 2 ^ 1 % 2 = 1 := (has_bits _).2.1.1 hb45
        refine G.yes rfl ?_
        refine G.region ?_
        refine GL.run (j := 2) 2 [1, 19, 20] [(1, pt p3 0), (19, .slice A_0 m_0 c_0), (20, pt p3 2)] (by kernel_rfl) rfl ?_
        refine GL.sem (j := 3) (H43.ld (o := 2) (ty := 5) (v := .int .u8 (t.toNat : Int)) 0 rfl (by kernel_rfl) rfl) [1, 19, 21] [(1, pt p3 0), (19, .slice A_0 m_0 c_0), (21, .int .u8 (t.toNat : Int))] (by kernel_rfl) (by kernel_rfl) rfl ?_
        obtain ⟨p47, w48, r49, H50⟩ := H43.madeRow (P := Try.prog) (Instr.buildSlice 26 1 #[(0, .int .u8 (t.toNat : Int))]) (fun b_ => .slice (some ⟨b_, 0, none⟩) 1 1) [.int .u8 (t.toNat : Int)] 5 1 1 1 (by kernel_rfl) (by decide) (by decide) rfl
        have H50 : Hp w [] [.blk p3 [.int .u8 (o.toNat : Int), .int .u8 (wh.toNat : Int), .int .u8 (t.toNat : Int), .int .u64 (am : Int), .int .u64 (id : Int), .int .u8 ((ad 0).toNat : Int), .int .u8 ((ad 1).toNat : Int), .int .u8 ((ad 2).toNat : Int), .int .u8 ((ad 3).toNat : Int), .int .u8 ((ad 4).toNat : Int), .int .u8 ((ad 5).toNat : Int), .int .u8 ((ad 6).toNat : Int), .int .u8 ((ad 7).toNat : Int), .int .u8 ((ad 8).toNat : Int), .int .u8 ((ad 9).toNat : Int), .int .u8 ((ad 10).toNat : Int), .int .u8 ((ad 11).toNat : Int), .int .u8 ((ad 12).toNat : Int), .int .u8 ((ad 13).toNat : Int), .int .u8 ((ad 14).toNat : Int), .int .u8 ((ad 15).toNat : Int), .int .u8 ((ad 16).toNat : Int), .int .u8 ((ad 17).toNat : Int), .int .u8 ((ad 18).toNat : Int), .int .u8 ((ad 19).toNat : Int), .bool ag, .string (strOf bd)] 34, .row A_0 m_0 c_0 5 1 (by8 b_0), .row (some ⟨p47, 0, none⟩) 1 1 5 1 (by8 ([t] : List UInt8))] w48 := H50
        refine GL.sem (j := 4) (r49) [1, 19, 22] [(1, pt p3 0), (19, .slice A_0 m_0 c_0), (22, .slice (some ⟨p47, 0, none⟩) 1 1)] (by kernel_rfl) (by kernel_rfl) rfl ?_
        obtain ⟨A51, c52, w53, r54, H55⟩ := H50.append (P := Try.prog) (e := 5) (sz := 1) (by_ := 1) (n := m_0) (c := c_0) (m := 1) (d := 1) (t := 26) (ty := 26) (xs := by8 b_0) (news := by8 ([t] : List UInt8)) 1 rfl (by kernel_rfl) (H50.rdRow 2 rfl) (by first | (simp [by8_length]; done) | (rw [by8_length]; omega) | (rw [by8_length, putB_length])) (by8_one _) (by omega) (by simp only [maxLen]; omega)
        rw [← by8_append] at H55
        have H55 : Hp w [] [.blk p3 [.int .u8 (o.toNat : Int), .int .u8 (wh.toNat : Int), .int .u8 (t.toNat : Int), .int .u64 (am : Int), .int .u64 (id : Int), .int .u8 ((ad 0).toNat : Int), .int .u8 ((ad 1).toNat : Int), .int .u8 ((ad 2).toNat : Int), .int .u8 ((ad 3).toNat : Int), .int .u8 ((ad 4).toNat : Int), .int .u8 ((ad 5).toNat : Int), .int .u8 ((ad 6).toNat : Int), .int .u8 ((ad 7).toNat : Int), .int .u8 ((ad 8).toNat : Int), .int .u8 ((ad 9).toNat : Int), .int .u8 ((ad 10).toNat : Int), .int .u8 ((ad 11).toNat : Int), .int .u8 ((ad 12).toNat : Int), .int .u8 ((ad 13).toNat : Int), .int .u8 ((ad 14).toNat : Int), .int .u8 ((ad 15).toNat : Int), .int .u8 ((ad 16).toNat : Int), .int .u8 ((ad 17).toNat : Int), .int .u8 ((ad 18).toNat : Int), .int .u8 ((ad 19).toNat : Int), .bool ag, .string (strOf bd)] 34, .row A51 (m_0 + 1) c52 5 1 (by8 (b_0 ++ ([t] : List UInt8))), .row (some ⟨p47, 0, none⟩) 1 1 5 1 (by8 ([t] : List UInt8))] w53 := H55
        refine GL.sem (j := 5) (r54) [1, 23] [(1, pt p3 0), (23, .slice A51 (m_0 + 1) c52)] (by kernel_rfl) (by kernel_rfl) rfl ?_
        refine GL.run (j := 6) 1 [1, 3] [(1, pt p3 0), (3, .slice A51 (m_0 + 1) c52)] (by kernel_rfl) rfl ?_
        refine GL.k rfl hK39 (fun _ _ h => h) ?_
        have H56 : Hp w [] [.blk p3 [.int .u8 (o.toNat : Int), .int .u8 (wh.toNat : Int), .int .u8 (t.toNat : Int), .int .u64 (am : Int), .int .u64 (id : Int), .int .u8 ((ad 0).toNat : Int), .int .u8 ((ad 1).toNat : Int), .int .u8 ((ad 2).toNat : Int), .int .u8 ((ad 3).toNat : Int), .int .u8 ((ad 4).toNat : Int), .int .u8 ((ad 5).toNat : Int), .int .u8 ((ad 6).toNat : Int), .int .u8 ((ad 7).toNat : Int), .int .u8 ((ad 8).toNat : Int), .int .u8 ((ad 9).toNat : Int), .int .u8 ((ad 10).toNat : Int), .int .u8 ((ad 11).toNat : Int), .int .u8 ((ad 12).toNat : Int), .int .u8 ((ad 13).toNat : Int), .int .u8 ((ad 14).toNat : Int), .int .u8 ((ad 15).toNat : Int), .int .u8 ((ad 16).toNat : Int), .int .u8 ((ad 17).toNat : Int), .int .u8 ((ad 18).toNat : Int), .int .u8 ((ad 19).toNat : Int), .bool ag, .string (strOf bd)] 34, .row A51 (m_0 + 1) c52 5 1 (by8 (b_0 ++ ([t] : List UInt8)))] w53 := H55.sub (List.Sublist.cons_cons _ (List.Sublist.cons_cons _ (List.Sublist.cons _ (List.Sublist.slnil))))
        refine G.fit [1, 3] (M' := [(1, pt p3 0), (3, .slice A51 (m_0 + 1) c52)]) (by kernel_rfl) ?_
        exact J37 ⟨A51, c52, (m_0 + 1), (b_0 ++ ([t] : List UInt8))⟩ _ ⟨⟨by first | (rw [fld, if_pos hbit1, put1]; done) | (rw [fld, if_pos hbit1, put1]; rfl), by omega⟩, H56⟩
    · skip
      rintro ⟨A_1, c_1, m_1, b_1⟩ w58 ⟨hi59, H60⟩
      refine G.eq (M' := [(1, pt p3 0), (3, .slice A_1 m_1 c_1)]) rfl ?_
      have H60 : Hp w [] [.blk p3 [.int .u8 (o.toNat : Int), .int .u8 (wh.toNat : Int), .int .u8 (t.toNat : Int), .int .u64 (am : Int), .int .u64 (id : Int), .int .u8 ((ad 0).toNat : Int), .int .u8 ((ad 1).toNat : Int), .int .u8 ((ad 2).toNat : Int), .int .u8 ((ad 3).toNat : Int), .int .u8 ((ad 4).toNat : Int), .int .u8 ((ad 5).toNat : Int), .int .u8 ((ad 6).toNat : Int), .int .u8 ((ad 7).toNat : Int), .int .u8 ((ad 8).toNat : Int), .int .u8 ((ad 9).toNat : Int), .int .u8 ((ad 10).toNat : Int), .int .u8 ((ad 11).toNat : Int), .int .u8 ((ad 12).toNat : Int), .int .u8 ((ad 13).toNat : Int), .int .u8 ((ad 14).toNat : Int), .int .u8 ((ad 15).toNat : Int), .int .u8 ((ad 16).toNat : Int), .int .u8 ((ad 17).toNat : Int), .int .u8 ((ad 18).toNat : Int), .int .u8 ((ad 19).toNat : Int), .bool ag, .string (strOf bd)] 34, .row A_1 m_1 c_1 5 1 (by8 b_1)] w58 := H60
      obtain ⟨hb_1, hm_1⟩ := hi59
      refine G.seqJ (X := Option Addr × Nat × Nat × List UInt8) (fun ⟨A_2, c_2, m_2, b_2⟩ => [(1, pt p3 0), (3, .slice A_2 m_2 c_2)]) (fun ⟨A_2, c_2, m_2, b_2⟩ w_ => (b_2 = b_1 ++ fld o.toNat 2 (putB am 8) ∧ m_2 ≤ m_1 + 8) ∧ Hp w [] [.blk p3 [.int .u8 (o.toNat : Int), .int .u8 (wh.toNat : Int), .int .u8 (t.toNat : Int), .int .u64 (am : Int), .int .u64 (id : Int), .int .u8 ((ad 0).toNat : Int), .int .u8 ((ad 1).toNat : Int), .int .u8 ((ad 2).toNat : Int), .int .u8 ((ad 3).toNat : Int), .int .u8 ((ad 4).toNat : Int), .int .u8 ((ad 5).toNat : Int), .int .u8 ((ad 6).toNat : Int), .int .u8 ((ad 7).toNat : Int), .int .u8 ((ad 8).toNat : Int), .int .u8 ((ad 9).toNat : Int), .int .u8 ((ad 10).toNat : Int), .int .u8 ((ad 11).toNat : Int), .int .u8 ((ad 12).toNat : Int), .int .u8 ((ad 13).toNat : Int), .int .u8 ((ad 14).toNat : Int), .int .u8 ((ad 15).toNat : Int), .int .u8 ((ad 16).toNat : Int), .int .u8 ((ad 17).toNat : Int), .int .u8 ((ad 18).toNat : Int), .int .u8 ((ad 19).toNat : Int), .bool ag, .string (strOf bd)] 34, .row A_2 m_2 c_2 5 1 (by8 b_2)] w_) (fun J61 K62 hK63 => ?_) ?_
      · skip
        refine G.seqK fun K64 hK65 => ?_
        refine G.region ?_
        refine GL.run (j := 1) 1 [1, 3, 24] [(1, pt p3 0), (3, .slice A_1 m_1 c_1), (24, pt p3 0)] (by kernel_rfl) rfl ?_
        refine GL.sem (j := 2) (H60.ld (o := 0) (ty := 5) (v := .int .u8 (o.toNat : Int)) 0 rfl (by kernel_rfl) rfl) [1, 3, 25] [(1, pt p3 0), (3, .slice A_1 m_1 c_1), (25, .int .u8 (o.toNat : Int))] (by kernel_rfl) (by kernel_rfl) rfl ?_
        refine GL.call (j := 3) (uses_calls o 97 w58) (by kernel_rfl) rfl (fun e_ w66 hR => ?_)
        obtain ⟨rfl, H68⟩ := hR
        have H67 : Hp w [] [.blk p3 [.int .u8 (o.toNat : Int), .int .u8 (wh.toNat : Int), .int .u8 (t.toNat : Int), .int .u64 (am : Int), .int .u64 (id : Int), .int .u8 ((ad 0).toNat : Int), .int .u8 ((ad 1).toNat : Int), .int .u8 ((ad 2).toNat : Int), .int .u8 ((ad 3).toNat : Int), .int .u8 ((ad 4).toNat : Int), .int .u8 ((ad 5).toNat : Int), .int .u8 ((ad 6).toNat : Int), .int .u8 ((ad 7).toNat : Int), .int .u8 ((ad 8).toNat : Int), .int .u8 ((ad 9).toNat : Int), .int .u8 ((ad 10).toNat : Int), .int .u8 ((ad 11).toNat : Int), .int .u8 ((ad 12).toNat : Int), .int .u8 ((ad 13).toNat : Int), .int .u8 ((ad 14).toNat : Int), .int .u8 ((ad 15).toNat : Int), .int .u8 ((ad 16).toNat : Int), .int .u8 ((ad 17).toNat : Int), .int .u8 ((ad 18).toNat : Int), .int .u8 ((ad 19).toNat : Int), .bool ag, .string (strOf bd)] 34, .row A_1 m_1 c_1 5 1 (by8 b_1)] w66 := H60.callNil H68
        refine ⟨_, rfl, [1, 3, 26], [(1, pt p3 0), (3, .slice A_1 m_1 c_1), (26, .bool (hasF o.toNat 97))], by kernel_rfl, ?_⟩
        refine GL.k rfl hK65 (fun _ _ h => h) ?_
        cases hb69 : (hasF o.toNat 97)
        · skip
          have hbit2 : ¬ fm o.toNat / 2 ^ 2 % 2 = 1 := fun h_ => by rw [(has_bits _).2.2.1.2 h_] at hb69; cases hb69
          refine G.no rfl ?_
          refine G.skipK hK63 (fun _ _ h => h) ?_
          refine G.fit [1, 3] (M' := [(1, pt p3 0), (3, .slice A_1 m_1 c_1)]) (by kernel_rfl) ?_
          exact J61 ⟨A_1, c_1, m_1, b_1⟩ _ ⟨⟨by rw [fld, if_neg hbit2, List.append_nil], by omega⟩, H67⟩
        · skip
          have hbit2 : fm o.toNat / 2 ^ 2 % 2 = 1 := (has_bits _).2.2.1.1 hb69
          refine G.yes rfl ?_
          refine G.region ?_
          refine GL.run (j := 2) 2 [1, 27, 28] [(1, pt p3 0), (27, .slice A_1 m_1 c_1), (28, pt p3 3)] (by kernel_rfl) rfl ?_
          refine GL.sem (j := 3) (H67.ld (o := 3) (ty := 23) (v := .int .u64 (am : Int)) 0 rfl (by kernel_rfl) rfl) [1, 27, 29] [(1, pt p3 0), (27, .slice A_1 m_1 c_1), (29, .int .u64 (am : Int))] (by kernel_rfl) (by kernel_rfl) rfl ?_
          refine GL.call (j := 4) (RPut_calls am 8 ham (by omega) w66) (by kernel_rfl) rfl (fun e_ w75 hR => ?_)
          obtain ⟨A71, c72, rfl, H74⟩ := hR
          have H73 : Hp w [] [.blk p3 [.int .u8 (o.toNat : Int), .int .u8 (wh.toNat : Int), .int .u8 (t.toNat : Int), .int .u64 (am : Int), .int .u64 (id : Int), .int .u8 ((ad 0).toNat : Int), .int .u8 ((ad 1).toNat : Int), .int .u8 ((ad 2).toNat : Int), .int .u8 ((ad 3).toNat : Int), .int .u8 ((ad 4).toNat : Int), .int .u8 ((ad 5).toNat : Int), .int .u8 ((ad 6).toNat : Int), .int .u8 ((ad 7).toNat : Int), .int .u8 ((ad 8).toNat : Int), .int .u8 ((ad 9).toNat : Int), .int .u8 ((ad 10).toNat : Int), .int .u8 ((ad 11).toNat : Int), .int .u8 ((ad 12).toNat : Int), .int .u8 ((ad 13).toNat : Int), .int .u8 ((ad 14).toNat : Int), .int .u8 ((ad 15).toNat : Int), .int .u8 ((ad 16).toNat : Int), .int .u8 ((ad 17).toNat : Int), .int .u8 ((ad 18).toNat : Int), .int .u8 ((ad 19).toNat : Int), .bool ag, .string (strOf bd)] 34, .row A_1 m_1 c_1 5 1 (by8 b_1), .row A71 8 c72 5 1 (by8 (putB am 8))] w75 := H67.callNew H74
          refine ⟨_, rfl, [1, 27, 30], [(1, pt p3 0), (27, .slice A_1 m_1 c_1), (30, .slice A71 8 c72)], by kernel_rfl, ?_⟩
          obtain ⟨A76, c77, w78, r79, H80⟩ := H73.append (P := Try.prog) (e := 5) (sz := 1) (by_ := 1) (n := m_1) (c := c_1) (m := 8) (d := c72) (t := 26) (ty := 26) (xs := by8 b_1) (news := by8 (putB am 8)) 1 rfl (by kernel_rfl) (H73.rdRow 2 rfl) (by first | (simp [by8_length]; done) | (rw [by8_length]; omega) | (rw [by8_length, putB_length])) (by8_one _) (by omega) (by simp only [maxLen]; omega)
          rw [← by8_append] at H80
          have H80 : Hp w [] [.blk p3 [.int .u8 (o.toNat : Int), .int .u8 (wh.toNat : Int), .int .u8 (t.toNat : Int), .int .u64 (am : Int), .int .u64 (id : Int), .int .u8 ((ad 0).toNat : Int), .int .u8 ((ad 1).toNat : Int), .int .u8 ((ad 2).toNat : Int), .int .u8 ((ad 3).toNat : Int), .int .u8 ((ad 4).toNat : Int), .int .u8 ((ad 5).toNat : Int), .int .u8 ((ad 6).toNat : Int), .int .u8 ((ad 7).toNat : Int), .int .u8 ((ad 8).toNat : Int), .int .u8 ((ad 9).toNat : Int), .int .u8 ((ad 10).toNat : Int), .int .u8 ((ad 11).toNat : Int), .int .u8 ((ad 12).toNat : Int), .int .u8 ((ad 13).toNat : Int), .int .u8 ((ad 14).toNat : Int), .int .u8 ((ad 15).toNat : Int), .int .u8 ((ad 16).toNat : Int), .int .u8 ((ad 17).toNat : Int), .int .u8 ((ad 18).toNat : Int), .int .u8 ((ad 19).toNat : Int), .bool ag, .string (strOf bd)] 34, .row A76 (m_1 + 8) c77 5 1 (by8 (b_1 ++ (putB am 8))), .row A71 8 c72 5 1 (by8 (putB am 8))] w78 := H80
          refine GL.sem (j := 5) (r79) [1, 31] [(1, pt p3 0), (31, .slice A76 (m_1 + 8) c77)] (by kernel_rfl) (by kernel_rfl) rfl ?_
          refine GL.run (j := 6) 1 [1, 3] [(1, pt p3 0), (3, .slice A76 (m_1 + 8) c77)] (by kernel_rfl) rfl ?_
          refine GL.k rfl hK63 (fun _ _ h => h) ?_
          have H81 : Hp w [] [.blk p3 [.int .u8 (o.toNat : Int), .int .u8 (wh.toNat : Int), .int .u8 (t.toNat : Int), .int .u64 (am : Int), .int .u64 (id : Int), .int .u8 ((ad 0).toNat : Int), .int .u8 ((ad 1).toNat : Int), .int .u8 ((ad 2).toNat : Int), .int .u8 ((ad 3).toNat : Int), .int .u8 ((ad 4).toNat : Int), .int .u8 ((ad 5).toNat : Int), .int .u8 ((ad 6).toNat : Int), .int .u8 ((ad 7).toNat : Int), .int .u8 ((ad 8).toNat : Int), .int .u8 ((ad 9).toNat : Int), .int .u8 ((ad 10).toNat : Int), .int .u8 ((ad 11).toNat : Int), .int .u8 ((ad 12).toNat : Int), .int .u8 ((ad 13).toNat : Int), .int .u8 ((ad 14).toNat : Int), .int .u8 ((ad 15).toNat : Int), .int .u8 ((ad 16).toNat : Int), .int .u8 ((ad 17).toNat : Int), .int .u8 ((ad 18).toNat : Int), .int .u8 ((ad 19).toNat : Int), .bool ag, .string (strOf bd)] 34, .row A76 (m_1 + 8) c77 5 1 (by8 (b_1 ++ (putB am 8)))] w78 := H80.sub (List.Sublist.cons_cons _ (List.Sublist.cons_cons _ (List.Sublist.cons _ (List.Sublist.slnil))))
          refine G.fit [1, 3] (M' := [(1, pt p3 0), (3, .slice A76 (m_1 + 8) c77)]) (by kernel_rfl) ?_
          exact J61 ⟨A76, c77, (m_1 + 8), (b_1 ++ (putB am 8))⟩ _ ⟨⟨by rw [fld, if_pos hbit2], by omega⟩, H81⟩
      · skip
        rintro ⟨A_2, c_2, m_2, b_2⟩ w83 ⟨hi84, H85⟩
        refine G.eq (M' := [(1, pt p3 0), (3, .slice A_2 m_2 c_2)]) rfl ?_
        have H85 : Hp w [] [.blk p3 [.int .u8 (o.toNat : Int), .int .u8 (wh.toNat : Int), .int .u8 (t.toNat : Int), .int .u64 (am : Int), .int .u64 (id : Int), .int .u8 ((ad 0).toNat : Int), .int .u8 ((ad 1).toNat : Int), .int .u8 ((ad 2).toNat : Int), .int .u8 ((ad 3).toNat : Int), .int .u8 ((ad 4).toNat : Int), .int .u8 ((ad 5).toNat : Int), .int .u8 ((ad 6).toNat : Int), .int .u8 ((ad 7).toNat : Int), .int .u8 ((ad 8).toNat : Int), .int .u8 ((ad 9).toNat : Int), .int .u8 ((ad 10).toNat : Int), .int .u8 ((ad 11).toNat : Int), .int .u8 ((ad 12).toNat : Int), .int .u8 ((ad 13).toNat : Int), .int .u8 ((ad 14).toNat : Int), .int .u8 ((ad 15).toNat : Int), .int .u8 ((ad 16).toNat : Int), .int .u8 ((ad 17).toNat : Int), .int .u8 ((ad 18).toNat : Int), .int .u8 ((ad 19).toNat : Int), .bool ag, .string (strOf bd)] 34, .row A_2 m_2 c_2 5 1 (by8 b_2)] w83 := H85
        obtain ⟨hb_2, hm_2⟩ := hi84
        refine G.seqJ (X := Option Addr × Nat × Nat × List UInt8) (fun ⟨A_3, c_3, m_3, b_3⟩ => [(1, pt p3 0), (3, .slice A_3 m_3 c_3)]) (fun ⟨A_3, c_3, m_3, b_3⟩ w_ => (b_3 = b_2 ++ fld o.toNat 3 (putB id 8) ∧ m_3 ≤ m_2 + 8) ∧ Hp w [] [.blk p3 [.int .u8 (o.toNat : Int), .int .u8 (wh.toNat : Int), .int .u8 (t.toNat : Int), .int .u64 (am : Int), .int .u64 (id : Int), .int .u8 ((ad 0).toNat : Int), .int .u8 ((ad 1).toNat : Int), .int .u8 ((ad 2).toNat : Int), .int .u8 ((ad 3).toNat : Int), .int .u8 ((ad 4).toNat : Int), .int .u8 ((ad 5).toNat : Int), .int .u8 ((ad 6).toNat : Int), .int .u8 ((ad 7).toNat : Int), .int .u8 ((ad 8).toNat : Int), .int .u8 ((ad 9).toNat : Int), .int .u8 ((ad 10).toNat : Int), .int .u8 ((ad 11).toNat : Int), .int .u8 ((ad 12).toNat : Int), .int .u8 ((ad 13).toNat : Int), .int .u8 ((ad 14).toNat : Int), .int .u8 ((ad 15).toNat : Int), .int .u8 ((ad 16).toNat : Int), .int .u8 ((ad 17).toNat : Int), .int .u8 ((ad 18).toNat : Int), .int .u8 ((ad 19).toNat : Int), .bool ag, .string (strOf bd)] 34, .row A_3 m_3 c_3 5 1 (by8 b_3)] w_) (fun J86 K87 hK88 => ?_) ?_
        · skip
          refine G.seqK fun K89 hK90 => ?_
          refine G.region ?_
          refine GL.run (j := 1) 1 [1, 3, 32] [(1, pt p3 0), (3, .slice A_2 m_2 c_2), (32, pt p3 0)] (by kernel_rfl) rfl ?_
          refine GL.sem (j := 2) (H85.ld (o := 0) (ty := 5) (v := .int .u8 (o.toNat : Int)) 0 rfl (by kernel_rfl) rfl) [1, 3, 33] [(1, pt p3 0), (3, .slice A_2 m_2 c_2), (33, .int .u8 (o.toNat : Int))] (by kernel_rfl) (by kernel_rfl) rfl ?_
          refine GL.call (j := 3) (uses_calls o 105 w83) (by kernel_rfl) rfl (fun e_ w91 hR => ?_)
          obtain ⟨rfl, H93⟩ := hR
          have H92 : Hp w [] [.blk p3 [.int .u8 (o.toNat : Int), .int .u8 (wh.toNat : Int), .int .u8 (t.toNat : Int), .int .u64 (am : Int), .int .u64 (id : Int), .int .u8 ((ad 0).toNat : Int), .int .u8 ((ad 1).toNat : Int), .int .u8 ((ad 2).toNat : Int), .int .u8 ((ad 3).toNat : Int), .int .u8 ((ad 4).toNat : Int), .int .u8 ((ad 5).toNat : Int), .int .u8 ((ad 6).toNat : Int), .int .u8 ((ad 7).toNat : Int), .int .u8 ((ad 8).toNat : Int), .int .u8 ((ad 9).toNat : Int), .int .u8 ((ad 10).toNat : Int), .int .u8 ((ad 11).toNat : Int), .int .u8 ((ad 12).toNat : Int), .int .u8 ((ad 13).toNat : Int), .int .u8 ((ad 14).toNat : Int), .int .u8 ((ad 15).toNat : Int), .int .u8 ((ad 16).toNat : Int), .int .u8 ((ad 17).toNat : Int), .int .u8 ((ad 18).toNat : Int), .int .u8 ((ad 19).toNat : Int), .bool ag, .string (strOf bd)] 34, .row A_2 m_2 c_2 5 1 (by8 b_2)] w91 := H85.callNil H93
          refine ⟨_, rfl, [1, 3, 34], [(1, pt p3 0), (3, .slice A_2 m_2 c_2), (34, .bool (hasF o.toNat 105))], by kernel_rfl, ?_⟩
          refine GL.k rfl hK90 (fun _ _ h => h) ?_
          cases hb94 : (hasF o.toNat 105)
          · skip
            have hbit3 : ¬ fm o.toNat / 2 ^ 3 % 2 = 1 := fun h_ => by rw [(has_bits _).2.2.2.1.2 h_] at hb94; cases hb94
            refine G.no rfl ?_
            refine G.skipK hK88 (fun _ _ h => h) ?_
            refine G.fit [1, 3] (M' := [(1, pt p3 0), (3, .slice A_2 m_2 c_2)]) (by kernel_rfl) ?_
            exact J86 ⟨A_2, c_2, m_2, b_2⟩ _ ⟨⟨by rw [fld, if_neg hbit3, List.append_nil], by omega⟩, H92⟩
          · skip
            have hbit3 : fm o.toNat / 2 ^ 3 % 2 = 1 := (has_bits _).2.2.2.1.1 hb94
            refine G.yes rfl ?_
            refine G.region ?_
            refine GL.run (j := 2) 2 [1, 35, 36] [(1, pt p3 0), (35, .slice A_2 m_2 c_2), (36, pt p3 4)] (by kernel_rfl) rfl ?_
            refine GL.sem (j := 3) (H92.ld (o := 4) (ty := 23) (v := .int .u64 (id : Int)) 0 rfl (by kernel_rfl) rfl) [1, 35, 37] [(1, pt p3 0), (35, .slice A_2 m_2 c_2), (37, .int .u64 (id : Int))] (by kernel_rfl) (by kernel_rfl) rfl ?_
            refine GL.call (j := 4) (RPut_calls id 8 hid (by omega) w91) (by kernel_rfl) rfl (fun e_ w100 hR => ?_)
            obtain ⟨A96, c97, rfl, H99⟩ := hR
            have H98 : Hp w [] [.blk p3 [.int .u8 (o.toNat : Int), .int .u8 (wh.toNat : Int), .int .u8 (t.toNat : Int), .int .u64 (am : Int), .int .u64 (id : Int), .int .u8 ((ad 0).toNat : Int), .int .u8 ((ad 1).toNat : Int), .int .u8 ((ad 2).toNat : Int), .int .u8 ((ad 3).toNat : Int), .int .u8 ((ad 4).toNat : Int), .int .u8 ((ad 5).toNat : Int), .int .u8 ((ad 6).toNat : Int), .int .u8 ((ad 7).toNat : Int), .int .u8 ((ad 8).toNat : Int), .int .u8 ((ad 9).toNat : Int), .int .u8 ((ad 10).toNat : Int), .int .u8 ((ad 11).toNat : Int), .int .u8 ((ad 12).toNat : Int), .int .u8 ((ad 13).toNat : Int), .int .u8 ((ad 14).toNat : Int), .int .u8 ((ad 15).toNat : Int), .int .u8 ((ad 16).toNat : Int), .int .u8 ((ad 17).toNat : Int), .int .u8 ((ad 18).toNat : Int), .int .u8 ((ad 19).toNat : Int), .bool ag, .string (strOf bd)] 34, .row A_2 m_2 c_2 5 1 (by8 b_2), .row A96 8 c97 5 1 (by8 (putB id 8))] w100 := H92.callNew H99
            refine ⟨_, rfl, [1, 35, 38], [(1, pt p3 0), (35, .slice A_2 m_2 c_2), (38, .slice A96 8 c97)], by kernel_rfl, ?_⟩
            obtain ⟨A101, c102, w103, r104, H105⟩ := H98.append (P := Try.prog) (e := 5) (sz := 1) (by_ := 1) (n := m_2) (c := c_2) (m := 8) (d := c97) (t := 26) (ty := 26) (xs := by8 b_2) (news := by8 (putB id 8)) 1 rfl (by kernel_rfl) (H98.rdRow 2 rfl) (by first | (simp [by8_length]; done) | (rw [by8_length]; omega) | (rw [by8_length, putB_length])) (by8_one _) (by omega) (by simp only [maxLen]; omega)
            rw [← by8_append] at H105
            have H105 : Hp w [] [.blk p3 [.int .u8 (o.toNat : Int), .int .u8 (wh.toNat : Int), .int .u8 (t.toNat : Int), .int .u64 (am : Int), .int .u64 (id : Int), .int .u8 ((ad 0).toNat : Int), .int .u8 ((ad 1).toNat : Int), .int .u8 ((ad 2).toNat : Int), .int .u8 ((ad 3).toNat : Int), .int .u8 ((ad 4).toNat : Int), .int .u8 ((ad 5).toNat : Int), .int .u8 ((ad 6).toNat : Int), .int .u8 ((ad 7).toNat : Int), .int .u8 ((ad 8).toNat : Int), .int .u8 ((ad 9).toNat : Int), .int .u8 ((ad 10).toNat : Int), .int .u8 ((ad 11).toNat : Int), .int .u8 ((ad 12).toNat : Int), .int .u8 ((ad 13).toNat : Int), .int .u8 ((ad 14).toNat : Int), .int .u8 ((ad 15).toNat : Int), .int .u8 ((ad 16).toNat : Int), .int .u8 ((ad 17).toNat : Int), .int .u8 ((ad 18).toNat : Int), .int .u8 ((ad 19).toNat : Int), .bool ag, .string (strOf bd)] 34, .row A101 (m_2 + 8) c102 5 1 (by8 (b_2 ++ (putB id 8))), .row A96 8 c97 5 1 (by8 (putB id 8))] w103 := H105
            refine GL.sem (j := 5) (r104) [1, 39] [(1, pt p3 0), (39, .slice A101 (m_2 + 8) c102)] (by kernel_rfl) (by kernel_rfl) rfl ?_
            refine GL.run (j := 6) 1 [1, 3] [(1, pt p3 0), (3, .slice A101 (m_2 + 8) c102)] (by kernel_rfl) rfl ?_
            refine GL.k rfl hK88 (fun _ _ h => h) ?_
            have H106 : Hp w [] [.blk p3 [.int .u8 (o.toNat : Int), .int .u8 (wh.toNat : Int), .int .u8 (t.toNat : Int), .int .u64 (am : Int), .int .u64 (id : Int), .int .u8 ((ad 0).toNat : Int), .int .u8 ((ad 1).toNat : Int), .int .u8 ((ad 2).toNat : Int), .int .u8 ((ad 3).toNat : Int), .int .u8 ((ad 4).toNat : Int), .int .u8 ((ad 5).toNat : Int), .int .u8 ((ad 6).toNat : Int), .int .u8 ((ad 7).toNat : Int), .int .u8 ((ad 8).toNat : Int), .int .u8 ((ad 9).toNat : Int), .int .u8 ((ad 10).toNat : Int), .int .u8 ((ad 11).toNat : Int), .int .u8 ((ad 12).toNat : Int), .int .u8 ((ad 13).toNat : Int), .int .u8 ((ad 14).toNat : Int), .int .u8 ((ad 15).toNat : Int), .int .u8 ((ad 16).toNat : Int), .int .u8 ((ad 17).toNat : Int), .int .u8 ((ad 18).toNat : Int), .int .u8 ((ad 19).toNat : Int), .bool ag, .string (strOf bd)] 34, .row A101 (m_2 + 8) c102 5 1 (by8 (b_2 ++ (putB id 8)))] w103 := H105.sub (List.Sublist.cons_cons _ (List.Sublist.cons_cons _ (List.Sublist.cons _ (List.Sublist.slnil))))
            refine G.fit [1, 3] (M' := [(1, pt p3 0), (3, .slice A101 (m_2 + 8) c102)]) (by kernel_rfl) ?_
            exact J86 ⟨A101, c102, (m_2 + 8), (b_2 ++ (putB id 8))⟩ _ ⟨⟨by rw [fld, if_pos hbit3], by omega⟩, H106⟩
        · skip
          rintro ⟨A_3, c_3, m_3, b_3⟩ w108 ⟨hi109, H110⟩
          refine G.eq (M' := [(1, pt p3 0), (3, .slice A_3 m_3 c_3)]) rfl ?_
          have H110 : Hp w [] [.blk p3 [.int .u8 (o.toNat : Int), .int .u8 (wh.toNat : Int), .int .u8 (t.toNat : Int), .int .u64 (am : Int), .int .u64 (id : Int), .int .u8 ((ad 0).toNat : Int), .int .u8 ((ad 1).toNat : Int), .int .u8 ((ad 2).toNat : Int), .int .u8 ((ad 3).toNat : Int), .int .u8 ((ad 4).toNat : Int), .int .u8 ((ad 5).toNat : Int), .int .u8 ((ad 6).toNat : Int), .int .u8 ((ad 7).toNat : Int), .int .u8 ((ad 8).toNat : Int), .int .u8 ((ad 9).toNat : Int), .int .u8 ((ad 10).toNat : Int), .int .u8 ((ad 11).toNat : Int), .int .u8 ((ad 12).toNat : Int), .int .u8 ((ad 13).toNat : Int), .int .u8 ((ad 14).toNat : Int), .int .u8 ((ad 15).toNat : Int), .int .u8 ((ad 16).toNat : Int), .int .u8 ((ad 17).toNat : Int), .int .u8 ((ad 18).toNat : Int), .int .u8 ((ad 19).toNat : Int), .bool ag, .string (strOf bd)] 34, .row A_3 m_3 c_3 5 1 (by8 b_3)] w108 := H110
          obtain ⟨hb_3, hm_3⟩ := hi109
          refine G.seqJ (X := Option Addr × Nat × Nat × List UInt8) (fun ⟨A_4, c_4, m_4, b_4⟩ => [(1, pt p3 0), (3, .slice A_4 m_4 c_4)]) (fun ⟨A_4, c_4, m_4, b_4⟩ w_ => (b_4 = b_3 ++ fld o.toNat 4 ((List.range 20).map ad) ∧ m_4 ≤ m_3 + 20) ∧ Hp w [] [.blk p3 [.int .u8 (o.toNat : Int), .int .u8 (wh.toNat : Int), .int .u8 (t.toNat : Int), .int .u64 (am : Int), .int .u64 (id : Int), .int .u8 ((ad 0).toNat : Int), .int .u8 ((ad 1).toNat : Int), .int .u8 ((ad 2).toNat : Int), .int .u8 ((ad 3).toNat : Int), .int .u8 ((ad 4).toNat : Int), .int .u8 ((ad 5).toNat : Int), .int .u8 ((ad 6).toNat : Int), .int .u8 ((ad 7).toNat : Int), .int .u8 ((ad 8).toNat : Int), .int .u8 ((ad 9).toNat : Int), .int .u8 ((ad 10).toNat : Int), .int .u8 ((ad 11).toNat : Int), .int .u8 ((ad 12).toNat : Int), .int .u8 ((ad 13).toNat : Int), .int .u8 ((ad 14).toNat : Int), .int .u8 ((ad 15).toNat : Int), .int .u8 ((ad 16).toNat : Int), .int .u8 ((ad 17).toNat : Int), .int .u8 ((ad 18).toNat : Int), .int .u8 ((ad 19).toNat : Int), .bool ag, .string (strOf bd)] 34, .row A_4 m_4 c_4 5 1 (by8 b_4)] w_) (fun J111 K112 hK113 => ?_) ?_
          · skip
            refine G.seqK fun K114 hK115 => ?_
            refine G.region ?_
            refine GL.run (j := 1) 1 [1, 3, 40] [(1, pt p3 0), (3, .slice A_3 m_3 c_3), (40, pt p3 0)] (by kernel_rfl) rfl ?_
            refine GL.sem (j := 2) (H110.ld (o := 0) (ty := 5) (v := .int .u8 (o.toNat : Int)) 0 rfl (by kernel_rfl) rfl) [1, 3, 41] [(1, pt p3 0), (3, .slice A_3 m_3 c_3), (41, .int .u8 (o.toNat : Int))] (by kernel_rfl) (by kernel_rfl) rfl ?_
            refine GL.call (j := 3) (uses_calls o 100 w108) (by kernel_rfl) rfl (fun e_ w116 hR => ?_)
            obtain ⟨rfl, H118⟩ := hR
            have H117 : Hp w [] [.blk p3 [.int .u8 (o.toNat : Int), .int .u8 (wh.toNat : Int), .int .u8 (t.toNat : Int), .int .u64 (am : Int), .int .u64 (id : Int), .int .u8 ((ad 0).toNat : Int), .int .u8 ((ad 1).toNat : Int), .int .u8 ((ad 2).toNat : Int), .int .u8 ((ad 3).toNat : Int), .int .u8 ((ad 4).toNat : Int), .int .u8 ((ad 5).toNat : Int), .int .u8 ((ad 6).toNat : Int), .int .u8 ((ad 7).toNat : Int), .int .u8 ((ad 8).toNat : Int), .int .u8 ((ad 9).toNat : Int), .int .u8 ((ad 10).toNat : Int), .int .u8 ((ad 11).toNat : Int), .int .u8 ((ad 12).toNat : Int), .int .u8 ((ad 13).toNat : Int), .int .u8 ((ad 14).toNat : Int), .int .u8 ((ad 15).toNat : Int), .int .u8 ((ad 16).toNat : Int), .int .u8 ((ad 17).toNat : Int), .int .u8 ((ad 18).toNat : Int), .int .u8 ((ad 19).toNat : Int), .bool ag, .string (strOf bd)] 34, .row A_3 m_3 c_3 5 1 (by8 b_3)] w116 := H110.callNil H118
            refine ⟨_, rfl, [1, 3, 42], [(1, pt p3 0), (3, .slice A_3 m_3 c_3), (42, .bool (hasF o.toNat 100))], by kernel_rfl, ?_⟩
            refine GL.k rfl hK115 (fun _ _ h => h) ?_
            cases hb119 : (hasF o.toNat 100)
            · skip
              have hbit4 : ¬ fm o.toNat / 2 ^ 4 % 2 = 1 := fun h_ => by rw [(has_bits _).2.2.2.2.1.2 h_] at hb119; cases hb119
              refine G.no rfl ?_
              refine G.skipK hK113 (fun _ _ h => h) ?_
              refine G.fit [1, 3] (M' := [(1, pt p3 0), (3, .slice A_3 m_3 c_3)]) (by kernel_rfl) ?_
              exact J111 ⟨A_3, c_3, m_3, b_3⟩ _ ⟨⟨by rw [fld, if_neg hbit4, List.append_nil], by omega⟩, H117⟩
            · skip
              have hbit4 : fm o.toNat / 2 ^ 4 % 2 = 1 := (has_bits _).2.2.2.2.1.1 hb119
              refine G.yes rfl ?_
              refine G.seqK fun K121 hK122 => ?_
              refine G.region ?_
              refine GL.run (j := 1) 1 [1, 3, 43] [(1, pt p3 0), (3, .slice A_3 m_3 c_3), (43, .int .i64 0)] (by kernel_rfl) rfl ?_
              refine GL.k rfl hK122 (fun _ _ h => h) ?_
              refine G.block ?_
              have H123 : Hp w [] [.blk p3 [.int .u8 (o.toNat : Int), .int .u8 (wh.toNat : Int), .int .u8 (t.toNat : Int), .int .u64 (am : Int), .int .u64 (id : Int), .int .u8 ((ad 0).toNat : Int), .int .u8 ((ad 1).toNat : Int), .int .u8 ((ad 2).toNat : Int), .int .u8 ((ad 3).toNat : Int), .int .u8 ((ad 4).toNat : Int), .int .u8 ((ad 5).toNat : Int), .int .u8 ((ad 6).toNat : Int), .int .u8 ((ad 7).toNat : Int), .int .u8 ((ad 8).toNat : Int), .int .u8 ((ad 9).toNat : Int), .int .u8 ((ad 10).toNat : Int), .int .u8 ((ad 11).toNat : Int), .int .u8 ((ad 12).toNat : Int), .int .u8 ((ad 13).toNat : Int), .int .u8 ((ad 14).toNat : Int), .int .u8 ((ad 15).toNat : Int), .int .u8 ((ad 16).toNat : Int), .int .u8 ((ad 17).toNat : Int), .int .u8 ((ad 18).toNat : Int), .int .u8 ((ad 19).toNat : Int), .bool ag, .string (strOf bd)] 34, .row A_3 (m_3 + 0) c_3 5 1 (by8 (b_3 ++ (List.range 0).map ad))] w116 := (by have h_ := H117; rw [List.range_zero, List.map_nil, List.append_nil]; exact h_)
              refine G.fit [1, 3, 43] (M' := [(1, pt p3 0), (3, .slice A_3 (m_3 + 0) c_3), (43, .int .i64 0)]) (by kernel_rfl) ?_
              refine G.loop (X := Nat × Option Addr × Nat) (fun ⟨j, A_, c_⟩ => [(1, pt p3 0), (3, .slice A_ (m_3 + j) c_), (43, .int .i64 (j : Int))]) (fun ⟨j, A_, c_⟩ w_ => (j ≤ 20) ∧ Hp w [] [.blk p3 [.int .u8 (o.toNat : Int), .int .u8 (wh.toNat : Int), .int .u8 (t.toNat : Int), .int .u64 (am : Int), .int .u64 (id : Int), .int .u8 ((ad 0).toNat : Int), .int .u8 ((ad 1).toNat : Int), .int .u8 ((ad 2).toNat : Int), .int .u8 ((ad 3).toNat : Int), .int .u8 ((ad 4).toNat : Int), .int .u8 ((ad 5).toNat : Int), .int .u8 ((ad 6).toNat : Int), .int .u8 ((ad 7).toNat : Int), .int .u8 ((ad 8).toNat : Int), .int .u8 ((ad 9).toNat : Int), .int .u8 ((ad 10).toNat : Int), .int .u8 ((ad 11).toNat : Int), .int .u8 ((ad 12).toNat : Int), .int .u8 ((ad 13).toNat : Int), .int .u8 ((ad 14).toNat : Int), .int .u8 ((ad 15).toNat : Int), .int .u8 ((ad 16).toNat : Int), .int .u8 ((ad 17).toNat : Int), .int .u8 ((ad 18).toNat : Int), .int .u8 ((ad 19).toNat : Int), .bool ag, .string (strOf bd)] 34, .row A_ (m_3 + j) c_ 5 1 (by8 (b_3 ++ (List.range j).map ad))] w_) (fun ⟨j, A_, c_⟩ => 20 - j) ⟨0, A_3, c_3⟩ [1, 3, 43] (by kernel_rfl) ⟨by omega, H123⟩ ?_
              rintro ⟨j, A_, c_⟩ w124 ⟨hi125, H126⟩
              refine G.eq (M' := [(1, pt p3 0), (3, .slice A_ (m_3 + j) c_), (43, .int .i64 (j : Int))]) rfl ?_
              have H126 : Hp w [] [.blk p3 [.int .u8 (o.toNat : Int), .int .u8 (wh.toNat : Int), .int .u8 (t.toNat : Int), .int .u64 (am : Int), .int .u64 (id : Int), .int .u8 ((ad 0).toNat : Int), .int .u8 ((ad 1).toNat : Int), .int .u8 ((ad 2).toNat : Int), .int .u8 ((ad 3).toNat : Int), .int .u8 ((ad 4).toNat : Int), .int .u8 ((ad 5).toNat : Int), .int .u8 ((ad 6).toNat : Int), .int .u8 ((ad 7).toNat : Int), .int .u8 ((ad 8).toNat : Int), .int .u8 ((ad 9).toNat : Int), .int .u8 ((ad 10).toNat : Int), .int .u8 ((ad 11).toNat : Int), .int .u8 ((ad 12).toNat : Int), .int .u8 ((ad 13).toNat : Int), .int .u8 ((ad 14).toNat : Int), .int .u8 ((ad 15).toNat : Int), .int .u8 ((ad 16).toNat : Int), .int .u8 ((ad 17).toNat : Int), .int .u8 ((ad 18).toNat : Int), .int .u8 ((ad 19).toNat : Int), .bool ag, .string (strOf bd)] 34, .row A_ (m_3 + j) c_ 5 1 (by8 (b_3 ++ (List.range j).map ad))] w124 := H126
              have hj20 := hi125
              refine G.seqK fun K127 hK128 => ?_
              refine G.region ?_
              refine GL.run (j := 1) 1 [1, 3, 43, 44] [(1, pt p3 0), (3, .slice A_ (m_3 + j) c_), (43, .int .i64 (j : Int)), (44, .bool (decide ((j : Int) < 20)))] (by kernel_rfl) rfl ?_
              refine GL.k rfl hK128 (fun _ _ h => h) ?_
              refine G.seqK fun K129 hK130 => ?_
              cases hb131 : (decide ((j : Int) < 20))
              · skip
                have hb131f := of_decide_eq_false hb131
                have hj_ : j = 20 := by omega
                subst hj_
                refine G.no rfl ?_
                refine G.exitK hK113 (fun _ _ h => h) ?_
                refine G.fit [1, 3] (M' := [(1, pt p3 0), (3, .slice A_ (m_3 + 20) c_)]) (by kernel_rfl) ?_
                exact J111 ⟨A_, c_, (m_3 + 20), (b_3 ++ (List.range 20).map ad)⟩ _ ⟨⟨by rw [fld, if_pos hbit4], by omega⟩, H126⟩
              · skip
                have hb131f := of_decide_eq_true hb131
                refine G.yes rfl ?_
                refine G.skipK hK130 (fun _ _ h => h) ?_
                refine G.seqK fun K133 hK134 => ?_
                refine G.block ?_
                refine G.seqK fun K135 hK136 => ?_
                refine G.region ?_
                refine GL.run (j := 2) 2 [1, 3, 4, 43] [(1, pt p3 0), (3, .slice A_ (m_3 + j) c_), (4, .int .i64 (j : Int)), (43, .int .i64 (j : Int))] (by kernel_rfl) rfl ?_
                refine GL.k rfl hK136 (fun _ _ h => h) ?_
                refine G.region ?_
                refine GL.run (j := 3) 3 [1, 43, 46, 47, 48] [(1, pt p3 0), (43, .int .i64 (j : Int)), (46, .slice A_ (m_3 + j) c_), (47, .int .i64 (j : Int)), (48, pt p3 5)] (by kernel_rfl) rfl ?_
                refine GL.sem (j := 4) (run_idxArr (P := Try.prog) (k := .i64) (t := 24) (len := 20) (sz := 1) (b := p3) (o := 5) (j := j) (by kernel_rfl) rfl (by omega)) [1, 43, 46, 49] [(1, pt p3 0), (43, .int .i64 (j : Int)), (46, .slice A_ (m_3 + j) c_), (49, pt p3 (5 + j * 1))] (by kernel_rfl) (by kernel_rfl) rfl ?_
                refine GL.sem (j := 5) (H126.ld (o := (5 + j * 1)) (ty := 5) (v := .int .u8 ((ad j).toNat : Int)) 0 rfl (by kernel_rfl) (ad_cell ad (by omega))) [1, 43, 46, 50] [(1, pt p3 0), (43, .int .i64 (j : Int)), (46, .slice A_ (m_3 + j) c_), (50, .int .u8 ((ad j).toNat : Int))] (by kernel_rfl) (by kernel_rfl) rfl ?_
                obtain ⟨p137, w138, r139, H140⟩ := H126.madeRow (P := Try.prog) (Instr.buildSlice 26 1 #[(0, .int .u8 ((ad j).toNat : Int))]) (fun b_ => .slice (some ⟨b_, 0, none⟩) 1 1) [.int .u8 ((ad j).toNat : Int)] 5 1 1 1 (by kernel_rfl) (by decide) (by decide) rfl
                have H140 : Hp w [] [.blk p3 [.int .u8 (o.toNat : Int), .int .u8 (wh.toNat : Int), .int .u8 (t.toNat : Int), .int .u64 (am : Int), .int .u64 (id : Int), .int .u8 ((ad 0).toNat : Int), .int .u8 ((ad 1).toNat : Int), .int .u8 ((ad 2).toNat : Int), .int .u8 ((ad 3).toNat : Int), .int .u8 ((ad 4).toNat : Int), .int .u8 ((ad 5).toNat : Int), .int .u8 ((ad 6).toNat : Int), .int .u8 ((ad 7).toNat : Int), .int .u8 ((ad 8).toNat : Int), .int .u8 ((ad 9).toNat : Int), .int .u8 ((ad 10).toNat : Int), .int .u8 ((ad 11).toNat : Int), .int .u8 ((ad 12).toNat : Int), .int .u8 ((ad 13).toNat : Int), .int .u8 ((ad 14).toNat : Int), .int .u8 ((ad 15).toNat : Int), .int .u8 ((ad 16).toNat : Int), .int .u8 ((ad 17).toNat : Int), .int .u8 ((ad 18).toNat : Int), .int .u8 ((ad 19).toNat : Int), .bool ag, .string (strOf bd)] 34, .row A_ (m_3 + j) c_ 5 1 (by8 (b_3 ++ (List.range j).map ad)), .row (some ⟨p137, 0, none⟩) 1 1 5 1 (by8 ([(ad j)] : List UInt8))] w138 := H140
                refine GL.sem (j := 6) (r139) [1, 43, 46, 51] [(1, pt p3 0), (43, .int .i64 (j : Int)), (46, .slice A_ (m_3 + j) c_), (51, .slice (some ⟨p137, 0, none⟩) 1 1)] (by kernel_rfl) (by kernel_rfl) rfl ?_
                obtain ⟨A141, c142, w143, r144, H145⟩ := H140.append (P := Try.prog) (e := 5) (sz := 1) (by_ := 1) (n := (m_3 + j)) (c := c_) (m := 1) (d := 1) (t := 26) (ty := 26) (xs := by8 (b_3 ++ (List.range j).map ad)) (news := by8 ([(ad j)] : List UInt8)) 1 rfl (by kernel_rfl) (H140.rdRow 2 rfl) (by first | (simp [by8_length]; done) | (rw [by8_length]; omega) | (rw [by8_length, putB_length])) (by8_one _) (by omega) (by simp only [maxLen]; omega)
                rw [← by8_append] at H145
                have H145 : Hp w [] [.blk p3 [.int .u8 (o.toNat : Int), .int .u8 (wh.toNat : Int), .int .u8 (t.toNat : Int), .int .u64 (am : Int), .int .u64 (id : Int), .int .u8 ((ad 0).toNat : Int), .int .u8 ((ad 1).toNat : Int), .int .u8 ((ad 2).toNat : Int), .int .u8 ((ad 3).toNat : Int), .int .u8 ((ad 4).toNat : Int), .int .u8 ((ad 5).toNat : Int), .int .u8 ((ad 6).toNat : Int), .int .u8 ((ad 7).toNat : Int), .int .u8 ((ad 8).toNat : Int), .int .u8 ((ad 9).toNat : Int), .int .u8 ((ad 10).toNat : Int), .int .u8 ((ad 11).toNat : Int), .int .u8 ((ad 12).toNat : Int), .int .u8 ((ad 13).toNat : Int), .int .u8 ((ad 14).toNat : Int), .int .u8 ((ad 15).toNat : Int), .int .u8 ((ad 16).toNat : Int), .int .u8 ((ad 17).toNat : Int), .int .u8 ((ad 18).toNat : Int), .int .u8 ((ad 19).toNat : Int), .bool ag, .string (strOf bd)] 34, .row A141 ((m_3 + j) + 1) c142 5 1 (by8 ((b_3 ++ (List.range j).map ad) ++ ([(ad j)] : List UInt8))), .row (some ⟨p137, 0, none⟩) 1 1 5 1 (by8 ([(ad j)] : List UInt8))] w143 := H145
                refine GL.sem (j := 7) (r144) [1, 43, 52] [(1, pt p3 0), (43, .int .i64 (j : Int)), (52, .slice A141 ((m_3 + j) + 1) c142)] (by kernel_rfl) (by kernel_rfl) rfl ?_
                refine GL.run (j := 8) 1 [1, 3, 43] [(1, pt p3 0), (3, .slice A141 ((m_3 + j) + 1) c142), (43, .int .i64 (j : Int))] (by kernel_rfl) rfl ?_
                refine GL.k rfl hK134 (fun _ _ h => h) ?_
                refine G.region ?_
                refine GL.run (j := 2) 2 [1, 3, 43] [(1, pt p3 0), (3, .slice A141 ((m_3 + j) + 1) c142), (43, .int .i64 (IntKind.i64.wrap ((j : Int) + 1)))] (by kernel_rfl) rfl ?_
                have e146 : (IntKind.i64.wrap ((j : Int) + 1)) = ((j + 1 : Nat) : Int) := by rw [in_i64 (by omega)]; omega
                refine GL.eq (M' := [(1, pt p3 0), (3, .slice A141 ((m_3 + j) + 1) c142), (43, .int .i64 ((j + 1 : Nat) : Int))]) (by rw [e146]) ?_
                clear e146
                have H147 : Hp w [] [.blk p3 [.int .u8 (o.toNat : Int), .int .u8 (wh.toNat : Int), .int .u8 (t.toNat : Int), .int .u64 (am : Int), .int .u64 (id : Int), .int .u8 ((ad 0).toNat : Int), .int .u8 ((ad 1).toNat : Int), .int .u8 ((ad 2).toNat : Int), .int .u8 ((ad 3).toNat : Int), .int .u8 ((ad 4).toNat : Int), .int .u8 ((ad 5).toNat : Int), .int .u8 ((ad 6).toNat : Int), .int .u8 ((ad 7).toNat : Int), .int .u8 ((ad 8).toNat : Int), .int .u8 ((ad 9).toNat : Int), .int .u8 ((ad 10).toNat : Int), .int .u8 ((ad 11).toNat : Int), .int .u8 ((ad 12).toNat : Int), .int .u8 ((ad 13).toNat : Int), .int .u8 ((ad 14).toNat : Int), .int .u8 ((ad 15).toNat : Int), .int .u8 ((ad 16).toNat : Int), .int .u8 ((ad 17).toNat : Int), .int .u8 ((ad 18).toNat : Int), .int .u8 ((ad 19).toNat : Int), .bool ag, .string (strOf bd)] 34, .row A141 ((m_3 + j) + 1) c142 5 1 (by8 ((b_3 ++ (List.range j).map ad) ++ ([(ad j)] : List UInt8)))] w143 := H145.sub (List.Sublist.cons_cons _ (List.Sublist.cons_cons _ (List.Sublist.cons _ (List.Sublist.slnil))))
                have H148 : Hp w [] [.blk p3 [.int .u8 (o.toNat : Int), .int .u8 (wh.toNat : Int), .int .u8 (t.toNat : Int), .int .u64 (am : Int), .int .u64 (id : Int), .int .u8 ((ad 0).toNat : Int), .int .u8 ((ad 1).toNat : Int), .int .u8 ((ad 2).toNat : Int), .int .u8 ((ad 3).toNat : Int), .int .u8 ((ad 4).toNat : Int), .int .u8 ((ad 5).toNat : Int), .int .u8 ((ad 6).toNat : Int), .int .u8 ((ad 7).toNat : Int), .int .u8 ((ad 8).toNat : Int), .int .u8 ((ad 9).toNat : Int), .int .u8 ((ad 10).toNat : Int), .int .u8 ((ad 11).toNat : Int), .int .u8 ((ad 12).toNat : Int), .int .u8 ((ad 13).toNat : Int), .int .u8 ((ad 14).toNat : Int), .int .u8 ((ad 15).toNat : Int), .int .u8 ((ad 16).toNat : Int), .int .u8 ((ad 17).toNat : Int), .int .u8 ((ad 18).toNat : Int), .int .u8 ((ad 19).toNat : Int), .bool ag, .string (strOf bd)] 34, .row A141 (m_3 + (j + 1)) c142 5 1 (by8 (b_3 ++ (List.range (j + 1)).map ad))] w143 := by rw [List.range_succ, List.map_append, ← List.append_assoc]; exact H147
                refine GL.fit (ts := [1, 3, 43]) (M' := [(1, pt p3 0), (3, .slice A141 ((m_3 + j) + 1) c142), (43, .int .i64 ((j + 1 : Nat) : Int))]) (by kernel_rfl) ?_
                refine GL.eq (M' := [(1, pt p3 0), (3, .slice A141 (m_3 + (j + 1)) c142), (43, .int .i64 (((j + 1) : Nat) : Int))]) (by rfl) ?_
                exact GL.again ⟨(j + 1), A141, c142⟩ [1, 3, 43] rfl (by kernel_rfl) (by show 20 - (j + 1) < 20 - j; omega) ⟨by omega, H148⟩
          · skip
            rintro ⟨A_4, c_4, m_4, b_4⟩ w149 ⟨hi150, H151⟩
            refine G.eq (M' := [(1, pt p3 0), (3, .slice A_4 m_4 c_4)]) rfl ?_
            have H151 : Hp w [] [.blk p3 [.int .u8 (o.toNat : Int), .int .u8 (wh.toNat : Int), .int .u8 (t.toNat : Int), .int .u64 (am : Int), .int .u64 (id : Int), .int .u8 ((ad 0).toNat : Int), .int .u8 ((ad 1).toNat : Int), .int .u8 ((ad 2).toNat : Int), .int .u8 ((ad 3).toNat : Int), .int .u8 ((ad 4).toNat : Int), .int .u8 ((ad 5).toNat : Int), .int .u8 ((ad 6).toNat : Int), .int .u8 ((ad 7).toNat : Int), .int .u8 ((ad 8).toNat : Int), .int .u8 ((ad 9).toNat : Int), .int .u8 ((ad 10).toNat : Int), .int .u8 ((ad 11).toNat : Int), .int .u8 ((ad 12).toNat : Int), .int .u8 ((ad 13).toNat : Int), .int .u8 ((ad 14).toNat : Int), .int .u8 ((ad 15).toNat : Int), .int .u8 ((ad 16).toNat : Int), .int .u8 ((ad 17).toNat : Int), .int .u8 ((ad 18).toNat : Int), .int .u8 ((ad 19).toNat : Int), .bool ag, .string (strOf bd)] 34, .row A_4 m_4 c_4 5 1 (by8 b_4)] w149 := H151
            obtain ⟨hb_4, hm_4⟩ := hi150
            refine G.seqJ (X := Option Addr × Nat × Nat × List UInt8) (fun ⟨A_5, c_5, m_5, b_5⟩ => [(1, pt p3 0), (3, .slice A_5 m_5 c_5)]) (fun ⟨A_5, c_5, m_5, b_5⟩ w_ => (b_5 = b_4 ++ fld o.toNat 5 (putB (if ag = true then 1 else 0) 1) ∧ m_5 ≤ m_4 + 1) ∧ Hp w [] [.blk p3 [.int .u8 (o.toNat : Int), .int .u8 (wh.toNat : Int), .int .u8 (t.toNat : Int), .int .u64 (am : Int), .int .u64 (id : Int), .int .u8 ((ad 0).toNat : Int), .int .u8 ((ad 1).toNat : Int), .int .u8 ((ad 2).toNat : Int), .int .u8 ((ad 3).toNat : Int), .int .u8 ((ad 4).toNat : Int), .int .u8 ((ad 5).toNat : Int), .int .u8 ((ad 6).toNat : Int), .int .u8 ((ad 7).toNat : Int), .int .u8 ((ad 8).toNat : Int), .int .u8 ((ad 9).toNat : Int), .int .u8 ((ad 10).toNat : Int), .int .u8 ((ad 11).toNat : Int), .int .u8 ((ad 12).toNat : Int), .int .u8 ((ad 13).toNat : Int), .int .u8 ((ad 14).toNat : Int), .int .u8 ((ad 15).toNat : Int), .int .u8 ((ad 16).toNat : Int), .int .u8 ((ad 17).toNat : Int), .int .u8 ((ad 18).toNat : Int), .int .u8 ((ad 19).toNat : Int), .bool ag, .string (strOf bd)] 34, .row A_5 m_5 c_5 5 1 (by8 b_5)] w_) (fun J152 K153 hK154 => ?_) ?_
            · skip
              refine G.seqK fun K155 hK156 => ?_
              refine G.region ?_
              refine GL.run (j := 1) 1 [1, 3, 54] [(1, pt p3 0), (3, .slice A_4 m_4 c_4), (54, pt p3 0)] (by kernel_rfl) rfl ?_
              refine GL.sem (j := 2) (H151.ld (o := 0) (ty := 5) (v := .int .u8 (o.toNat : Int)) 0 rfl (by kernel_rfl) rfl) [1, 3, 55] [(1, pt p3 0), (3, .slice A_4 m_4 c_4), (55, .int .u8 (o.toNat : Int))] (by kernel_rfl) (by kernel_rfl) rfl ?_
              refine GL.call (j := 3) (uses_calls o 103 w149) (by kernel_rfl) rfl (fun e_ w157 hR => ?_)
              obtain ⟨rfl, H159⟩ := hR
              have H158 : Hp w [] [.blk p3 [.int .u8 (o.toNat : Int), .int .u8 (wh.toNat : Int), .int .u8 (t.toNat : Int), .int .u64 (am : Int), .int .u64 (id : Int), .int .u8 ((ad 0).toNat : Int), .int .u8 ((ad 1).toNat : Int), .int .u8 ((ad 2).toNat : Int), .int .u8 ((ad 3).toNat : Int), .int .u8 ((ad 4).toNat : Int), .int .u8 ((ad 5).toNat : Int), .int .u8 ((ad 6).toNat : Int), .int .u8 ((ad 7).toNat : Int), .int .u8 ((ad 8).toNat : Int), .int .u8 ((ad 9).toNat : Int), .int .u8 ((ad 10).toNat : Int), .int .u8 ((ad 11).toNat : Int), .int .u8 ((ad 12).toNat : Int), .int .u8 ((ad 13).toNat : Int), .int .u8 ((ad 14).toNat : Int), .int .u8 ((ad 15).toNat : Int), .int .u8 ((ad 16).toNat : Int), .int .u8 ((ad 17).toNat : Int), .int .u8 ((ad 18).toNat : Int), .int .u8 ((ad 19).toNat : Int), .bool ag, .string (strOf bd)] 34, .row A_4 m_4 c_4 5 1 (by8 b_4)] w157 := H151.callNil H159
              refine ⟨_, rfl, [1, 3, 56], [(1, pt p3 0), (3, .slice A_4 m_4 c_4), (56, .bool (hasF o.toNat 103))], by kernel_rfl, ?_⟩
              refine GL.k rfl hK156 (fun _ _ h => h) ?_
              cases hb160 : (hasF o.toNat 103)
              · skip
                have hbit5 : ¬ fm o.toNat / 2 ^ 5 % 2 = 1 := fun h_ => by rw [(has_bits _).2.2.2.2.2.1.2 h_] at hb160; cases hb160
                refine G.no rfl ?_
                refine G.skipK hK154 (fun _ _ h => h) ?_
                refine G.fit [1, 3] (M' := [(1, pt p3 0), (3, .slice A_4 m_4 c_4)]) (by kernel_rfl) ?_
                exact J152 ⟨A_4, c_4, m_4, b_4⟩ _ ⟨⟨by rw [fld, if_neg hbit5, List.append_nil], by omega⟩, H158⟩
              · skip
                have hbit5 : fm o.toNat / 2 ^ 5 % 2 = 1 := (has_bits _).2.2.2.2.2.1.1 hb160
                refine G.yes rfl ?_
                refine G.seqK fun K162 hK163 => ?_
                refine G.region ?_
                refine GL.run (j := 1) 1 [1, 3, 57] [(1, pt p3 0), (3, .slice A_4 m_4 c_4), (57, pt p3 25)] (by kernel_rfl) rfl ?_
                refine GL.sem (j := 2) (H158.ld (o := 25) (ty := 4) (v := .bool ag) 0 rfl (by kernel_rfl) rfl) [1, 3, 58] [(1, pt p3 0), (3, .slice A_4 m_4 c_4), (58, .bool ag)] (by kernel_rfl) (by kernel_rfl) rfl ?_
                refine GL.k rfl hK163 (fun _ _ h => h) ?_
                rcases (Bool.eq_false_or_eq_true ag).symm with hb164 | hb164
                · skip
                  refine G.eq (M' := [(1, pt p3 0), (3, .slice A_4 m_4 c_4), (58, .bool false)]) (by first | (rw [hb164]; done) | (rw [hb164]; rfl)) ?_
                  refine G.no rfl ?_
                  refine G.region ?_
                  refine GL.run (j := 1) 1 [1, 62] [(1, pt p3 0), (62, .slice A_4 m_4 c_4)] (by kernel_rfl) rfl ?_
                  obtain ⟨p165, w166, r167, H168⟩ := H158.madeRow (P := Try.prog) (Instr.buildSlice 26 1 #[(0, .int .u8 0)]) (fun b_ => .slice (some ⟨b_, 0, none⟩) 1 1) [.int .u8 0] 5 1 1 1 (by kernel_rfl) (by decide) (by decide) rfl
                  have H168 : Hp w [] [.blk p3 [.int .u8 (o.toNat : Int), .int .u8 (wh.toNat : Int), .int .u8 (t.toNat : Int), .int .u64 (am : Int), .int .u64 (id : Int), .int .u8 ((ad 0).toNat : Int), .int .u8 ((ad 1).toNat : Int), .int .u8 ((ad 2).toNat : Int), .int .u8 ((ad 3).toNat : Int), .int .u8 ((ad 4).toNat : Int), .int .u8 ((ad 5).toNat : Int), .int .u8 ((ad 6).toNat : Int), .int .u8 ((ad 7).toNat : Int), .int .u8 ((ad 8).toNat : Int), .int .u8 ((ad 9).toNat : Int), .int .u8 ((ad 10).toNat : Int), .int .u8 ((ad 11).toNat : Int), .int .u8 ((ad 12).toNat : Int), .int .u8 ((ad 13).toNat : Int), .int .u8 ((ad 14).toNat : Int), .int .u8 ((ad 15).toNat : Int), .int .u8 ((ad 16).toNat : Int), .int .u8 ((ad 17).toNat : Int), .int .u8 ((ad 18).toNat : Int), .int .u8 ((ad 19).toNat : Int), .bool ag, .string (strOf bd)] 34, .row A_4 m_4 c_4 5 1 (by8 b_4), .row (some ⟨p165, 0, none⟩) 1 1 5 1 (by8 ([0] : List UInt8))] w166 := H168
                  refine GL.sem (j := 2) (r167) [1, 62, 63] [(1, pt p3 0), (62, .slice A_4 m_4 c_4), (63, .slice (some ⟨p165, 0, none⟩) 1 1)] (by kernel_rfl) (by kernel_rfl) rfl ?_
                  obtain ⟨A169, c170, w171, r172, H173⟩ := H168.append (P := Try.prog) (e := 5) (sz := 1) (by_ := 1) (n := m_4) (c := c_4) (m := 1) (d := 1) (t := 26) (ty := 26) (xs := by8 b_4) (news := by8 ([0] : List UInt8)) 1 rfl (by kernel_rfl) (H168.rdRow 2 rfl) (by first | (simp [by8_length]; done) | (rw [by8_length]; omega) | (rw [by8_length, putB_length])) (by8_one _) (by omega) (by simp only [maxLen]; omega)
                  rw [← by8_append] at H173
                  have H173 : Hp w [] [.blk p3 [.int .u8 (o.toNat : Int), .int .u8 (wh.toNat : Int), .int .u8 (t.toNat : Int), .int .u64 (am : Int), .int .u64 (id : Int), .int .u8 ((ad 0).toNat : Int), .int .u8 ((ad 1).toNat : Int), .int .u8 ((ad 2).toNat : Int), .int .u8 ((ad 3).toNat : Int), .int .u8 ((ad 4).toNat : Int), .int .u8 ((ad 5).toNat : Int), .int .u8 ((ad 6).toNat : Int), .int .u8 ((ad 7).toNat : Int), .int .u8 ((ad 8).toNat : Int), .int .u8 ((ad 9).toNat : Int), .int .u8 ((ad 10).toNat : Int), .int .u8 ((ad 11).toNat : Int), .int .u8 ((ad 12).toNat : Int), .int .u8 ((ad 13).toNat : Int), .int .u8 ((ad 14).toNat : Int), .int .u8 ((ad 15).toNat : Int), .int .u8 ((ad 16).toNat : Int), .int .u8 ((ad 17).toNat : Int), .int .u8 ((ad 18).toNat : Int), .int .u8 ((ad 19).toNat : Int), .bool ag, .string (strOf bd)] 34, .row A169 (m_4 + 1) c170 5 1 (by8 (b_4 ++ ([0] : List UInt8))), .row (some ⟨p165, 0, none⟩) 1 1 5 1 (by8 ([0] : List UInt8))] w171 := H173
                  refine GL.sem (j := 3) (r172) [1, 64] [(1, pt p3 0), (64, .slice A169 (m_4 + 1) c170)] (by kernel_rfl) (by kernel_rfl) rfl ?_
                  refine GL.run (j := 4) 1 [1, 3] [(1, pt p3 0), (3, .slice A169 (m_4 + 1) c170)] (by kernel_rfl) rfl ?_
                  refine GL.k rfl hK154 (fun _ _ h => h) ?_
                  have H174 : Hp w [] [.blk p3 [.int .u8 (o.toNat : Int), .int .u8 (wh.toNat : Int), .int .u8 (t.toNat : Int), .int .u64 (am : Int), .int .u64 (id : Int), .int .u8 ((ad 0).toNat : Int), .int .u8 ((ad 1).toNat : Int), .int .u8 ((ad 2).toNat : Int), .int .u8 ((ad 3).toNat : Int), .int .u8 ((ad 4).toNat : Int), .int .u8 ((ad 5).toNat : Int), .int .u8 ((ad 6).toNat : Int), .int .u8 ((ad 7).toNat : Int), .int .u8 ((ad 8).toNat : Int), .int .u8 ((ad 9).toNat : Int), .int .u8 ((ad 10).toNat : Int), .int .u8 ((ad 11).toNat : Int), .int .u8 ((ad 12).toNat : Int), .int .u8 ((ad 13).toNat : Int), .int .u8 ((ad 14).toNat : Int), .int .u8 ((ad 15).toNat : Int), .int .u8 ((ad 16).toNat : Int), .int .u8 ((ad 17).toNat : Int), .int .u8 ((ad 18).toNat : Int), .int .u8 ((ad 19).toNat : Int), .bool ag, .string (strOf bd)] 34, .row A169 (m_4 + 1) c170 5 1 (by8 (b_4 ++ ([0] : List UInt8)))] w171 := H173.sub (List.Sublist.cons_cons _ (List.Sublist.cons_cons _ (List.Sublist.cons _ (List.Sublist.slnil))))
                  refine G.fit [1, 3] (M' := [(1, pt p3 0), (3, .slice A169 (m_4 + 1) c170)]) (by kernel_rfl) ?_
                  exact J152 ⟨A169, c170, (m_4 + 1), (b_4 ++ ([0] : List UInt8))⟩ _ ⟨⟨by rw [fld, if_pos hbit5, (by assumption : ag = false)]; rfl, by omega⟩, H174⟩
                · skip
                  refine G.eq (M' := [(1, pt p3 0), (3, .slice A_4 m_4 c_4), (58, .bool true)]) (by first | (rw [hb164]; done) | (rw [hb164]; rfl)) ?_
                  refine G.yes rfl ?_
                  refine G.region ?_
                  refine GL.run (j := 1) 1 [1, 59] [(1, pt p3 0), (59, .slice A_4 m_4 c_4)] (by kernel_rfl) rfl ?_
                  obtain ⟨p176, w177, r178, H179⟩ := H158.madeRow (P := Try.prog) (Instr.buildSlice 26 1 #[(0, .int .u8 1)]) (fun b_ => .slice (some ⟨b_, 0, none⟩) 1 1) [.int .u8 1] 5 1 1 1 (by kernel_rfl) (by decide) (by decide) rfl
                  have H179 : Hp w [] [.blk p3 [.int .u8 (o.toNat : Int), .int .u8 (wh.toNat : Int), .int .u8 (t.toNat : Int), .int .u64 (am : Int), .int .u64 (id : Int), .int .u8 ((ad 0).toNat : Int), .int .u8 ((ad 1).toNat : Int), .int .u8 ((ad 2).toNat : Int), .int .u8 ((ad 3).toNat : Int), .int .u8 ((ad 4).toNat : Int), .int .u8 ((ad 5).toNat : Int), .int .u8 ((ad 6).toNat : Int), .int .u8 ((ad 7).toNat : Int), .int .u8 ((ad 8).toNat : Int), .int .u8 ((ad 9).toNat : Int), .int .u8 ((ad 10).toNat : Int), .int .u8 ((ad 11).toNat : Int), .int .u8 ((ad 12).toNat : Int), .int .u8 ((ad 13).toNat : Int), .int .u8 ((ad 14).toNat : Int), .int .u8 ((ad 15).toNat : Int), .int .u8 ((ad 16).toNat : Int), .int .u8 ((ad 17).toNat : Int), .int .u8 ((ad 18).toNat : Int), .int .u8 ((ad 19).toNat : Int), .bool ag, .string (strOf bd)] 34, .row A_4 m_4 c_4 5 1 (by8 b_4), .row (some ⟨p176, 0, none⟩) 1 1 5 1 (by8 ([1] : List UInt8))] w177 := H179
                  refine GL.sem (j := 2) (r178) [1, 59, 60] [(1, pt p3 0), (59, .slice A_4 m_4 c_4), (60, .slice (some ⟨p176, 0, none⟩) 1 1)] (by kernel_rfl) (by kernel_rfl) rfl ?_
                  obtain ⟨A180, c181, w182, r183, H184⟩ := H179.append (P := Try.prog) (e := 5) (sz := 1) (by_ := 1) (n := m_4) (c := c_4) (m := 1) (d := 1) (t := 26) (ty := 26) (xs := by8 b_4) (news := by8 ([1] : List UInt8)) 1 rfl (by kernel_rfl) (H179.rdRow 2 rfl) (by first | (simp [by8_length]; done) | (rw [by8_length]; omega) | (rw [by8_length, putB_length])) (by8_one _) (by omega) (by simp only [maxLen]; omega)
                  rw [← by8_append] at H184
                  have H184 : Hp w [] [.blk p3 [.int .u8 (o.toNat : Int), .int .u8 (wh.toNat : Int), .int .u8 (t.toNat : Int), .int .u64 (am : Int), .int .u64 (id : Int), .int .u8 ((ad 0).toNat : Int), .int .u8 ((ad 1).toNat : Int), .int .u8 ((ad 2).toNat : Int), .int .u8 ((ad 3).toNat : Int), .int .u8 ((ad 4).toNat : Int), .int .u8 ((ad 5).toNat : Int), .int .u8 ((ad 6).toNat : Int), .int .u8 ((ad 7).toNat : Int), .int .u8 ((ad 8).toNat : Int), .int .u8 ((ad 9).toNat : Int), .int .u8 ((ad 10).toNat : Int), .int .u8 ((ad 11).toNat : Int), .int .u8 ((ad 12).toNat : Int), .int .u8 ((ad 13).toNat : Int), .int .u8 ((ad 14).toNat : Int), .int .u8 ((ad 15).toNat : Int), .int .u8 ((ad 16).toNat : Int), .int .u8 ((ad 17).toNat : Int), .int .u8 ((ad 18).toNat : Int), .int .u8 ((ad 19).toNat : Int), .bool ag, .string (strOf bd)] 34, .row A180 (m_4 + 1) c181 5 1 (by8 (b_4 ++ ([1] : List UInt8))), .row (some ⟨p176, 0, none⟩) 1 1 5 1 (by8 ([1] : List UInt8))] w182 := H184
                  refine GL.sem (j := 3) (r183) [1, 61] [(1, pt p3 0), (61, .slice A180 (m_4 + 1) c181)] (by kernel_rfl) (by kernel_rfl) rfl ?_
                  refine GL.run (j := 4) 1 [1, 3] [(1, pt p3 0), (3, .slice A180 (m_4 + 1) c181)] (by kernel_rfl) rfl ?_
                  refine GL.k rfl hK154 (fun _ _ h => h) ?_
                  have H185 : Hp w [] [.blk p3 [.int .u8 (o.toNat : Int), .int .u8 (wh.toNat : Int), .int .u8 (t.toNat : Int), .int .u64 (am : Int), .int .u64 (id : Int), .int .u8 ((ad 0).toNat : Int), .int .u8 ((ad 1).toNat : Int), .int .u8 ((ad 2).toNat : Int), .int .u8 ((ad 3).toNat : Int), .int .u8 ((ad 4).toNat : Int), .int .u8 ((ad 5).toNat : Int), .int .u8 ((ad 6).toNat : Int), .int .u8 ((ad 7).toNat : Int), .int .u8 ((ad 8).toNat : Int), .int .u8 ((ad 9).toNat : Int), .int .u8 ((ad 10).toNat : Int), .int .u8 ((ad 11).toNat : Int), .int .u8 ((ad 12).toNat : Int), .int .u8 ((ad 13).toNat : Int), .int .u8 ((ad 14).toNat : Int), .int .u8 ((ad 15).toNat : Int), .int .u8 ((ad 16).toNat : Int), .int .u8 ((ad 17).toNat : Int), .int .u8 ((ad 18).toNat : Int), .int .u8 ((ad 19).toNat : Int), .bool ag, .string (strOf bd)] 34, .row A180 (m_4 + 1) c181 5 1 (by8 (b_4 ++ ([1] : List UInt8)))] w182 := H184.sub (List.Sublist.cons_cons _ (List.Sublist.cons_cons _ (List.Sublist.cons _ (List.Sublist.slnil))))
                  refine G.fit [1, 3] (M' := [(1, pt p3 0), (3, .slice A180 (m_4 + 1) c181)]) (by kernel_rfl) ?_
                  exact J152 ⟨A180, c181, (m_4 + 1), (b_4 ++ ([1] : List UInt8))⟩ _ ⟨⟨by rw [fld, if_pos hbit5, (by assumption : ag = true)]; rfl, by omega⟩, H185⟩
            · skip
              rintro ⟨A_5, c_5, m_5, b_5⟩ w187 ⟨hi188, H189⟩
              refine G.eq (M' := [(1, pt p3 0), (3, .slice A_5 m_5 c_5)]) rfl ?_
              have H189 : Hp w [] [.blk p3 [.int .u8 (o.toNat : Int), .int .u8 (wh.toNat : Int), .int .u8 (t.toNat : Int), .int .u64 (am : Int), .int .u64 (id : Int), .int .u8 ((ad 0).toNat : Int), .int .u8 ((ad 1).toNat : Int), .int .u8 ((ad 2).toNat : Int), .int .u8 ((ad 3).toNat : Int), .int .u8 ((ad 4).toNat : Int), .int .u8 ((ad 5).toNat : Int), .int .u8 ((ad 6).toNat : Int), .int .u8 ((ad 7).toNat : Int), .int .u8 ((ad 8).toNat : Int), .int .u8 ((ad 9).toNat : Int), .int .u8 ((ad 10).toNat : Int), .int .u8 ((ad 11).toNat : Int), .int .u8 ((ad 12).toNat : Int), .int .u8 ((ad 13).toNat : Int), .int .u8 ((ad 14).toNat : Int), .int .u8 ((ad 15).toNat : Int), .int .u8 ((ad 16).toNat : Int), .int .u8 ((ad 17).toNat : Int), .int .u8 ((ad 18).toNat : Int), .int .u8 ((ad 19).toNat : Int), .bool ag, .string (strOf bd)] 34, .row A_5 m_5 c_5 5 1 (by8 b_5)] w187 := H189
              obtain ⟨hb_5, hm_5⟩ := hi188
              refine G.seqJ (X := Option Addr × Nat × Nat × List UInt8) (fun ⟨A_6, c_6, m_6, b_6⟩ => [(3, .slice A_6 m_6 c_6)]) (fun ⟨A_6, c_6, m_6, b_6⟩ w_ => (b_6 = b_5 ++ fld o.toNat 6 (cnt bd.length ++ bd) ∧ m_6 ≤ m_5 + 9020) ∧ Hp w [] [.blk p3 [.int .u8 (o.toNat : Int), .int .u8 (wh.toNat : Int), .int .u8 (t.toNat : Int), .int .u64 (am : Int), .int .u64 (id : Int), .int .u8 ((ad 0).toNat : Int), .int .u8 ((ad 1).toNat : Int), .int .u8 ((ad 2).toNat : Int), .int .u8 ((ad 3).toNat : Int), .int .u8 ((ad 4).toNat : Int), .int .u8 ((ad 5).toNat : Int), .int .u8 ((ad 6).toNat : Int), .int .u8 ((ad 7).toNat : Int), .int .u8 ((ad 8).toNat : Int), .int .u8 ((ad 9).toNat : Int), .int .u8 ((ad 10).toNat : Int), .int .u8 ((ad 11).toNat : Int), .int .u8 ((ad 12).toNat : Int), .int .u8 ((ad 13).toNat : Int), .int .u8 ((ad 14).toNat : Int), .int .u8 ((ad 15).toNat : Int), .int .u8 ((ad 16).toNat : Int), .int .u8 ((ad 17).toNat : Int), .int .u8 ((ad 18).toNat : Int), .int .u8 ((ad 19).toNat : Int), .bool ag, .string (strOf bd)] 34, .row A_6 m_6 c_6 5 1 (by8 b_6)] w_) (fun J190 K191 hK192 => ?_) ?_
              · skip
                refine G.seqK fun K193 hK194 => ?_
                refine G.region ?_
                refine GL.run (j := 1) 1 [1, 3, 65] [(1, pt p3 0), (3, .slice A_5 m_5 c_5), (65, pt p3 0)] (by kernel_rfl) rfl ?_
                refine GL.sem (j := 2) (H189.ld (o := 0) (ty := 5) (v := .int .u8 (o.toNat : Int)) 0 rfl (by kernel_rfl) rfl) [1, 3, 66] [(1, pt p3 0), (3, .slice A_5 m_5 c_5), (66, .int .u8 (o.toNat : Int))] (by kernel_rfl) (by kernel_rfl) rfl ?_
                refine GL.call (j := 3) (uses_calls o 98 w187) (by kernel_rfl) rfl (fun e_ w195 hR => ?_)
                obtain ⟨rfl, H197⟩ := hR
                have H196 : Hp w [] [.blk p3 [.int .u8 (o.toNat : Int), .int .u8 (wh.toNat : Int), .int .u8 (t.toNat : Int), .int .u64 (am : Int), .int .u64 (id : Int), .int .u8 ((ad 0).toNat : Int), .int .u8 ((ad 1).toNat : Int), .int .u8 ((ad 2).toNat : Int), .int .u8 ((ad 3).toNat : Int), .int .u8 ((ad 4).toNat : Int), .int .u8 ((ad 5).toNat : Int), .int .u8 ((ad 6).toNat : Int), .int .u8 ((ad 7).toNat : Int), .int .u8 ((ad 8).toNat : Int), .int .u8 ((ad 9).toNat : Int), .int .u8 ((ad 10).toNat : Int), .int .u8 ((ad 11).toNat : Int), .int .u8 ((ad 12).toNat : Int), .int .u8 ((ad 13).toNat : Int), .int .u8 ((ad 14).toNat : Int), .int .u8 ((ad 15).toNat : Int), .int .u8 ((ad 16).toNat : Int), .int .u8 ((ad 17).toNat : Int), .int .u8 ((ad 18).toNat : Int), .int .u8 ((ad 19).toNat : Int), .bool ag, .string (strOf bd)] 34, .row A_5 m_5 c_5 5 1 (by8 b_5)] w195 := H189.callNil H197
                refine ⟨_, rfl, [1, 3, 67], [(1, pt p3 0), (3, .slice A_5 m_5 c_5), (67, .bool (hasF o.toNat 98))], by kernel_rfl, ?_⟩
                refine GL.k rfl hK194 (fun _ _ h => h) ?_
                cases hb198 : (hasF o.toNat 98)
                · skip
                  have hbit6 : ¬ fm o.toNat / 2 ^ 6 % 2 = 1 := fun h_ => by rw [(has_bits _).2.2.2.2.2.2.1.2 h_] at hb198; cases hb198
                  refine G.no rfl ?_
                  refine G.skipK hK192 (fun _ _ h => h) ?_
                  refine G.fit [3] (M' := [(3, .slice A_5 m_5 c_5)]) (by kernel_rfl) ?_
                  exact J190 ⟨A_5, c_5, m_5, b_5⟩ _ ⟨⟨by rw [fld, if_neg hbit6, List.append_nil], by omega⟩, H196⟩
                · skip
                  have hbit6 : fm o.toNat / 2 ^ 6 % 2 = 1 := (has_bits _).2.2.2.2.2.2.1.1 hb198
                  refine G.yes rfl ?_
                  refine G.seqK fun K200 hK201 => ?_
                  refine G.region ?_
                  refine GL.run (j := 2) 2 [1, 68, 69] [(1, pt p3 0), (68, .slice A_5 m_5 c_5), (69, pt p3 26)] (by kernel_rfl) rfl ?_
                  refine GL.sem (j := 3) (H196.ld (o := 26) (ty := 9) (v := .string (strOf bd)) 0 rfl (by kernel_rfl) rfl) [1, 68, 70] [(1, pt p3 0), (68, .slice A_5 m_5 c_5), (70, .string (strOf bd))] (by kernel_rfl) (by kernel_rfl) rfl ?_
                  refine GL.run (j := 5) 2 [1, 68, 72] [(1, pt p3 0), (68, .slice A_5 m_5 c_5), (72, .int .u64 (IntKind.u64.wrap ((strOf bd).size : Int)))] (by kernel_rfl) rfl ?_
                  have e202 : (IntKind.u64.wrap ((strOf bd).size : Int)) = (bd.length : Int) := by rw [strOf_size]; exact in_u64 (by omega)
                  refine GL.eq (M' := [(1, pt p3 0), (68, .slice A_5 m_5 c_5), (72, .int .u64 (bd.length : Int))]) (by rw [e202]) ?_
                  clear e202
                  have hcA203 := cntSz_le bd.length
                  refine GL.call (j := 6) (RCnt_calls bd.length (Nat.lt_of_le_of_lt hbc (by decide)) w195) (by kernel_rfl) rfl (fun e_ w207 hR => ?_)
                  obtain ⟨A203, c204, rfl, H206⟩ := hR
                  have H205 : Hp w [] [.blk p3 [.int .u8 (o.toNat : Int), .int .u8 (wh.toNat : Int), .int .u8 (t.toNat : Int), .int .u64 (am : Int), .int .u64 (id : Int), .int .u8 ((ad 0).toNat : Int), .int .u8 ((ad 1).toNat : Int), .int .u8 ((ad 2).toNat : Int), .int .u8 ((ad 3).toNat : Int), .int .u8 ((ad 4).toNat : Int), .int .u8 ((ad 5).toNat : Int), .int .u8 ((ad 6).toNat : Int), .int .u8 ((ad 7).toNat : Int), .int .u8 ((ad 8).toNat : Int), .int .u8 ((ad 9).toNat : Int), .int .u8 ((ad 10).toNat : Int), .int .u8 ((ad 11).toNat : Int), .int .u8 ((ad 12).toNat : Int), .int .u8 ((ad 13).toNat : Int), .int .u8 ((ad 14).toNat : Int), .int .u8 ((ad 15).toNat : Int), .int .u8 ((ad 16).toNat : Int), .int .u8 ((ad 17).toNat : Int), .int .u8 ((ad 18).toNat : Int), .int .u8 ((ad 19).toNat : Int), .bool ag, .string (strOf bd)] 34, .row A_5 m_5 c_5 5 1 (by8 b_5), .row A203 (cntSz bd.length) c204 5 1 (by8 (cnt bd.length))] w207 := H196.callNew H206
                  refine ⟨_, rfl, [1, 68, 73], [(1, pt p3 0), (68, .slice A_5 m_5 c_5), (73, .slice A203 (cntSz bd.length) c204)], by kernel_rfl, ?_⟩
                  obtain ⟨A208, c209, w210, r211, H212⟩ := H205.append (P := Try.prog) (e := 5) (sz := 1) (by_ := 1) (n := m_5) (c := c_5) (m := (cntSz bd.length)) (d := c204) (t := 26) (ty := 26) (xs := by8 b_5) (news := by8 (cnt bd.length)) 1 rfl (by kernel_rfl) (H205.rdRow 2 rfl) (by rw [by8_length, cnt_length, Nat.mul_one]) (by8_one _) (by omega) (by simp only [maxLen]; omega)
                  rw [← by8_append] at H212
                  have H212 : Hp w [] [.blk p3 [.int .u8 (o.toNat : Int), .int .u8 (wh.toNat : Int), .int .u8 (t.toNat : Int), .int .u64 (am : Int), .int .u64 (id : Int), .int .u8 ((ad 0).toNat : Int), .int .u8 ((ad 1).toNat : Int), .int .u8 ((ad 2).toNat : Int), .int .u8 ((ad 3).toNat : Int), .int .u8 ((ad 4).toNat : Int), .int .u8 ((ad 5).toNat : Int), .int .u8 ((ad 6).toNat : Int), .int .u8 ((ad 7).toNat : Int), .int .u8 ((ad 8).toNat : Int), .int .u8 ((ad 9).toNat : Int), .int .u8 ((ad 10).toNat : Int), .int .u8 ((ad 11).toNat : Int), .int .u8 ((ad 12).toNat : Int), .int .u8 ((ad 13).toNat : Int), .int .u8 ((ad 14).toNat : Int), .int .u8 ((ad 15).toNat : Int), .int .u8 ((ad 16).toNat : Int), .int .u8 ((ad 17).toNat : Int), .int .u8 ((ad 18).toNat : Int), .int .u8 ((ad 19).toNat : Int), .bool ag, .string (strOf bd)] 34, .row A208 (m_5 + (cntSz bd.length)) c209 5 1 (by8 (b_5 ++ (cnt bd.length))), .row A203 (cntSz bd.length) c204 5 1 (by8 (cnt bd.length))] w210 := H212
                  refine GL.sem (j := 7) (r211) [1, 74] [(1, pt p3 0), (74, .slice A208 (m_5 + (cntSz bd.length)) c209)] (by kernel_rfl) (by kernel_rfl) rfl ?_
                  refine GL.run (j := 8) 1 [1, 3] [(1, pt p3 0), (3, .slice A208 (m_5 + (cntSz bd.length)) c209)] (by kernel_rfl) rfl ?_
                  refine GL.k rfl hK201 (fun _ _ h => h) ?_
                  refine G.region ?_
                  refine GL.run (j := 2) 2 [75, 76] [(75, .slice A208 (m_5 + (cntSz bd.length)) c209), (76, pt p3 26)] (by kernel_rfl) rfl ?_
                  refine GL.sem (j := 3) (H212.ld (o := 26) (ty := 9) (v := .string (strOf bd)) 0 rfl (by kernel_rfl) rfl) [75, 77] [(75, .slice A208 (m_5 + (cntSz bd.length)) c209), (77, .string (strOf bd))] (by kernel_rfl) (by kernel_rfl) rfl ?_
                  obtain ⟨A213, c214, w215, r216, H217⟩ := H212.appendStr (P := Try.prog) (t := 26) (u := 9) (ty := 26) 1 bd rfl (by kernel_rfl) (by kernel_rfl) (by omega)
                  rw [← by8_append] at H217
                  have H217 : Hp w [] [.blk p3 [.int .u8 (o.toNat : Int), .int .u8 (wh.toNat : Int), .int .u8 (t.toNat : Int), .int .u64 (am : Int), .int .u64 (id : Int), .int .u8 ((ad 0).toNat : Int), .int .u8 ((ad 1).toNat : Int), .int .u8 ((ad 2).toNat : Int), .int .u8 ((ad 3).toNat : Int), .int .u8 ((ad 4).toNat : Int), .int .u8 ((ad 5).toNat : Int), .int .u8 ((ad 6).toNat : Int), .int .u8 ((ad 7).toNat : Int), .int .u8 ((ad 8).toNat : Int), .int .u8 ((ad 9).toNat : Int), .int .u8 ((ad 10).toNat : Int), .int .u8 ((ad 11).toNat : Int), .int .u8 ((ad 12).toNat : Int), .int .u8 ((ad 13).toNat : Int), .int .u8 ((ad 14).toNat : Int), .int .u8 ((ad 15).toNat : Int), .int .u8 ((ad 16).toNat : Int), .int .u8 ((ad 17).toNat : Int), .int .u8 ((ad 18).toNat : Int), .int .u8 ((ad 19).toNat : Int), .bool ag, .string (strOf bd)] 34, .row A213 ((m_5 + (cntSz bd.length)) + bd.length) c214 5 1 (by8 ((b_5 ++ (cnt bd.length)) ++ bd)), .row A203 (cntSz bd.length) c204 5 1 (by8 (cnt bd.length))] w215 := H217
                  refine GL.sem (j := 4) (r216) [78] [(78, .slice A213 ((m_5 + (cntSz bd.length)) + bd.length) c214)] (by kernel_rfl) (by kernel_rfl) rfl ?_
                  refine GL.run (j := 5) 1 [3] [(3, .slice A213 ((m_5 + (cntSz bd.length)) + bd.length) c214)] (by kernel_rfl) rfl ?_
                  refine GL.k rfl hK192 (fun _ _ h => h) ?_
                  have H218 : Hp w [] [.blk p3 [.int .u8 (o.toNat : Int), .int .u8 (wh.toNat : Int), .int .u8 (t.toNat : Int), .int .u64 (am : Int), .int .u64 (id : Int), .int .u8 ((ad 0).toNat : Int), .int .u8 ((ad 1).toNat : Int), .int .u8 ((ad 2).toNat : Int), .int .u8 ((ad 3).toNat : Int), .int .u8 ((ad 4).toNat : Int), .int .u8 ((ad 5).toNat : Int), .int .u8 ((ad 6).toNat : Int), .int .u8 ((ad 7).toNat : Int), .int .u8 ((ad 8).toNat : Int), .int .u8 ((ad 9).toNat : Int), .int .u8 ((ad 10).toNat : Int), .int .u8 ((ad 11).toNat : Int), .int .u8 ((ad 12).toNat : Int), .int .u8 ((ad 13).toNat : Int), .int .u8 ((ad 14).toNat : Int), .int .u8 ((ad 15).toNat : Int), .int .u8 ((ad 16).toNat : Int), .int .u8 ((ad 17).toNat : Int), .int .u8 ((ad 18).toNat : Int), .int .u8 ((ad 19).toNat : Int), .bool ag, .string (strOf bd)] 34, .row A213 ((m_5 + (cntSz bd.length)) + bd.length) c214 5 1 (by8 ((b_5 ++ (cnt bd.length)) ++ bd))] w215 := H217.sub (List.Sublist.cons_cons _ (List.Sublist.cons_cons _ (List.Sublist.cons _ (List.Sublist.slnil))))
                  have hcs6 := cntSz_le bd.length
                  refine G.fit [3] (M' := [(3, .slice A213 ((m_5 + (cntSz bd.length)) + bd.length) c214)]) (by kernel_rfl) ?_
                  exact J190 ⟨A213, c214, ((m_5 + (cntSz bd.length)) + bd.length), ((b_5 ++ (cnt bd.length)) ++ bd)⟩ _ ⟨⟨by rw [fld, if_pos hbit6, List.append_assoc], by omega⟩, H218⟩
              · skip
                rintro ⟨A_6, c_6, m_6, b_6⟩ w220 ⟨hi221, H222⟩
                refine G.eq (M' := [(3, .slice A_6 m_6 c_6)]) rfl ?_
                have H222 : Hp w [] [.blk p3 [.int .u8 (o.toNat : Int), .int .u8 (wh.toNat : Int), .int .u8 (t.toNat : Int), .int .u64 (am : Int), .int .u64 (id : Int), .int .u8 ((ad 0).toNat : Int), .int .u8 ((ad 1).toNat : Int), .int .u8 ((ad 2).toNat : Int), .int .u8 ((ad 3).toNat : Int), .int .u8 ((ad 4).toNat : Int), .int .u8 ((ad 5).toNat : Int), .int .u8 ((ad 6).toNat : Int), .int .u8 ((ad 7).toNat : Int), .int .u8 ((ad 8).toNat : Int), .int .u8 ((ad 9).toNat : Int), .int .u8 ((ad 10).toNat : Int), .int .u8 ((ad 11).toNat : Int), .int .u8 ((ad 12).toNat : Int), .int .u8 ((ad 13).toNat : Int), .int .u8 ((ad 14).toNat : Int), .int .u8 ((ad 15).toNat : Int), .int .u8 ((ad 16).toNat : Int), .int .u8 ((ad 17).toNat : Int), .int .u8 ((ad 18).toNat : Int), .int .u8 ((ad 19).toNat : Int), .bool ag, .string (strOf bd)] 34, .row A_6 m_6 c_6 5 1 (by8 b_6)] w220 := H222
                obtain ⟨hb_6, hm_6⟩ := hi221
                refine G.seqK fun K223 hK224 => ?_
                refine G.region ?_
                refine GL.run (j := 2) 2 [2] [(2, .slice A_6 m_6 c_6)] (by kernel_rfl) rfl ?_
                refine GL.k rfl hK224 (fun _ _ h => h) ?_
                refine G.ret ?_
                intro F_ hF_ hM_
                refine hRet _ _ (bodyPost_1 rfl (RV.tmp rfl) ?_ F_ hF_ hM_)
                have H225 : Hp w [] [.row A_6 m_6 c_6 5 1 (by8 b_6)] w220 := H222.sub (List.Sublist.cons _ (List.Sublist.cons_cons _ (List.Sublist.slnil)))
                have eB : b_6 = cmdB o wh t am id ad ag bd := by rw [hb_6, hb_5, hb_4, hb_3, hb_2, hb_1, hb_0]; unfold cmdB; rw [put1 o]; simp only [List.append_assoc]
                have HF := H225
                rw [eB] at HF
                exact ⟨_, _, _, rfl, HF⟩
end Go.Proofs.Ytkfhcogdpmndkaa
namespace Go.Proofs.Ytkfhcogdpmndkaa
open Go.RowKit
def Stp (on : Prop) (n : Nat) (z : Bool) (q : List UInt8) (z' : Bool) (q' v : List UInt8) : Prop := (on → z' = (!(rOK z q n)) ∧ q' = rR z q n ∧ v = rV z q n) ∧ (¬ on → z' = z ∧ q' = q ∧ v = [])
def StpC (on : Prop) (m : Nat) (z : Bool) (q : List UInt8) (z' : Bool) (q' v : List UInt8) : Prop := (on → z' = (!(cdOK z q m)) ∧ q' = cdR z q m ∧ v = cdV z q m) ∧ (¬ on → z' = z ∧ q' = q ∧ v = [])
section
variable {on : Prop} {n m : Nat} {z z' : Bool} {q q' v : List UInt8}
theorem Stp.back (h : Stp on n z q z' q' v) (hz : z' = false) : z = false ∧ q = v ++ q' ∧ (on → v.length = n) ∧ (¬ on → v = []) := by
  by_cases ho : on
  · obtain ⟨h1, h2, h3⟩ := h.1 ho
    obtain ⟨f, hn, hd, ht⟩ := rd_back h1 h2 h3 hz
    exact ⟨f, by rw [ht, hd, List.take_append_drop], fun _ => by rw [ht, List.length_take]; omega, fun h => absurd ho h⟩
  · obtain ⟨h1, h2, h3⟩ := h.2 ho
    exact ⟨by rw [← h1]; exact hz, by rw [h2, h3]; rfl, fun h => absurd h ho, fun _ => h3⟩
theorem Stp.on_ (h : Stp on n z q z' q' v) (hz : z = false) {X T : List UInt8} (hq : q = X ++ T) (hX : on → X.length = n) (hX0 : ¬ on → X = []) : z' = false ∧ q' = T ∧ v = X := by
  by_cases ho : on
  · obtain ⟨h1, h2, h3⟩ := h.1 ho
    obtain ⟨f, hd, ht⟩ := rd_on h1 h2 h3 hz (by rw [hq, List.length_append, hX ho]; omega)
    exact ⟨f, by rw [hd, hq, List.drop_left' (hX ho)], by rw [ht, hq, List.take_left' (hX ho)]⟩
  · obtain ⟨h1, h2, h3⟩ := h.2 ho
    refine ⟨by rw [h1]; exact hz, ?_, ?_⟩
    · rw [h2, hq, hX0 ho]
      rfl
    · rw [h3, hX0 ho]
theorem ct_sound (h : ctOK z q m = true) : z = false ∧ q = cnt (ctV z q m) ++ ctR z q m ∧ ctV z q m ≤ m := by
  have h' := h
  simp only [ctOK, Bool.and_eq_true, Bool.not_eq_true', decide_eq_true_eq] at h'
  obtain ⟨hw, hsz, hm⟩ := h'
  have e1 : ctV z q m = ctX z q := by unfold ctV; rw [if_pos h]
  have e2 : ctR z q m = ctT z q := by unfold ctR; rw [if_pos h]
  have p : ∀ (l : List UInt8) (k : Nat), k ≤ l.length → putB (getB (l.take k)) k = l.take k := fun l k hk => by
    have := putB_get (l.take k)
    rwa [show (l.take k).length = k by rw [List.length_take]; omega] at this
  rw [e1, e2]
  by_cases h0 : ctN z q = 0
  · obtain ⟨x1, x2, x3⟩ := ct_short h0
    rcases rOK_cases z q 1 with ⟨g1, g2, g3⟩ | ⟨g1, _, _⟩
    · subst g2
      obtain ⟨_, o2, o3⟩ := rOK_true (rest := q) (n := 1) g3
      refine ⟨rfl, ?_, hm⟩
      rw [h0] at hsz
      rcases cnt_cases (ctX false q) with ⟨_, _, e⟩ | ⟨_, _, hs, _⟩ | ⟨_, _, hs, _⟩ | ⟨_, hs, _⟩
      · rw [e, x1, x3, o2, o3, p q 1 g3, List.take_append_drop]
      all_goals omega
    · rw [x2, g1] at hw
      cases hw
  · obtain ⟨x1, x2, x3⟩ := ct_long (n := ctN z q) rfl h0
    rw [x2] at hw
    rcases rOK_cases (!(rOK z q 1)) (rR z q 1) (ctN z q) with ⟨g1, g2, g3⟩ | ⟨g1, _, _⟩
    · rcases rOK_cases z q 1 with ⟨k1, k2, k3⟩ | ⟨k1, _, _⟩
      · subst k2
        obtain ⟨_, o2, o3⟩ := rOK_true (rest := q) (n := 1) k3
        rw [o3] at g3
        obtain ⟨_, r2, r3⟩ := rOK_true (rest := q.drop 1) (n := ctN false q) g3
        rw [k1, o3] at x1 x3
        change ctX false q = getB (rV false (q.drop 1) (ctN false q)) at x1
        change ctT false q = rR false (q.drop 1) (ctN false q) at x3
        rw [r2] at x1
        rw [r3] at x3
        have hN : (getB (rV false q 1) = 253 ∧ ctN false q = 2) ∨ (getB (rV false q 1) = 254 ∧ ctN false q = 4) ∨ (getB (rV false q 1) = 255 ∧ ctN false q = 8) := by
          unfold ctN at h0 ⊢
          by_cases a1 : getB (rV false q 1) = 253
          · exact .inl ⟨a1, by rw [if_pos a1]⟩
          · by_cases a2 : getB (rV false q 1) = 254
            · exact .inr (.inl ⟨a2, by rw [if_neg a1, if_pos a2]⟩)
            · by_cases a3 : getB (rV false q 1) = 255
              · exact .inr (.inr ⟨a3, by rw [if_neg a1, if_neg a2, if_pos a3]⟩)
              · rw [if_neg a1, if_neg a2, if_neg a3] at h0
                exact absurd rfl h0
        have hd : ∀ s, getB (rV false q 1) = s → q = putB s 1 ++ q.drop 1 := fun s hs => by
          rw [← hs, o2, p q 1 k3, List.take_append_drop]
        have hd2 : q.drop 1 = putB (ctX false q) (ctN false q) ++ ctT false q := by
          rw [x1, x3, p (q.drop 1) (ctN false q) g3, List.take_append_drop]
        refine ⟨rfl, ?_, hm⟩
        rcases hN with ⟨a, b⟩ | ⟨a, b⟩ | ⟨a, b⟩
        · rw [b] at hsz hd2
          rcases cnt_cases (ctX false q) with ⟨_, hs, _⟩ | ⟨_, _, _, e⟩ | ⟨_, _, hs, _⟩ | ⟨_, hs, _⟩
          · omega
          · rw [e, List.append_assoc, ← hd2]
            exact hd _ a
          all_goals omega
        · rw [b] at hsz hd2
          rcases cnt_cases (ctX false q) with ⟨_, hs, _⟩ | ⟨_, _, hs, _⟩ | ⟨_, _, _, e⟩ | ⟨_, hs, _⟩
          · omega
          · omega
          · rw [e, List.append_assoc, ← hd2]
            exact hd _ a
          · omega
        · rw [b] at hsz hd2
          rcases cnt_cases (ctX false q) with ⟨_, hs, _⟩ | ⟨_, _, hs, _⟩ | ⟨_, _, hs, _⟩ | ⟨_, _, e⟩
          · omega
          · omega
          · omega
          · rw [e, List.append_assoc, ← hd2]
            exact hd _ a
      · rw [k1] at g2
        cases g2
    · rw [g1] at hw
      cases hw
theorem cd_sound (h : cdOK z q m = true) : z = false ∧ q = cnt (cdV z q m).length ++ cdV z q m ++ cdR z q m ∧ (cdV z q m).length ≤ m := by
  unfold cdOK at h
  rcases rOK_cases (!(ctOK z q m)) (ctR z q m) (ctV z q m) with ⟨g1, g2, g3⟩ | ⟨g1, _, _⟩
  · have hc : ctOK z q m = true := by
      cases hh : ctOK z q m
      · rw [hh] at g2
        cases g2
      · rfl
    obtain ⟨a, b, c⟩ := ct_sound hc
    obtain ⟨_, o2, o3⟩ := rOK_true (rest := ctR z q m) (n := ctV z q m) g3
    have eV : cdV z q m = (ctR z q m).take (ctV z q m) := by unfold cdV; rw [hc]; exact o2
    have eR : cdR z q m = (ctR z q m).drop (ctV z q m) := by unfold cdR; rw [hc]; exact o3
    have hl : (cdV z q m).length = ctV z q m := by rw [eV, List.length_take]; omega
    refine ⟨a, ?_, by rw [hl]; exact c⟩
    rw [hl, List.append_assoc, eV, eR, List.take_append_drop]
    exact b
  · rw [g1] at h
    cases h
theorem ct_on (hm : n ≤ m) (hn : n < 18446744073709551616) (T : List UInt8) : ctOK false (cnt n ++ T) m = true ∧ ctV false (cnt n ++ T) m = n ∧ ctR false (cnt n ++ T) m = T := by
  obtain ⟨a, b, c⟩ := ct_cn (cnt n ++ T) m
  obtain ⟨x1, x2, x3, x4⟩ := cn_cnt hn T
  have hh : (cnOK (cnt n ++ T) && decide (cnX (cnt n ++ T) ≤ m)) = true := by rw [x1, x2, decide_eq_true hm]; rfl
  rw [hh] at a b c
  exact ⟨a, by rw [b, if_pos rfl, x2], by rw [c, if_pos rfl, x3]⟩
theorem cd_on {b T : List UInt8} (hm : b.length ≤ m) (hn : b.length < 18446744073709551616) : cdOK false (cnt b.length ++ b ++ T) m = true ∧ cdV false (cnt b.length ++ b ++ T) m = b ∧ cdR false (cnt b.length ++ b ++ T) m = T := by
  rw [List.append_assoc]
  obtain ⟨a, b', c⟩ := ct_on hm hn (b ++ T)
  obtain ⟨o1, o2, o3⟩ := rOK_true (rest := b ++ T) (n := b.length) (by rw [List.length_append]; omega)
  unfold cdOK cdV cdR
  rw [a, b', c]
  exact ⟨o1, o2.trans (List.take_left' rfl), o3.trans (List.drop_left' rfl)⟩
theorem StpC.back (h : StpC on m z q z' q' v) (hz : z' = false) : z = false ∧ (on → q = cnt v.length ++ v ++ q' ∧ v.length ≤ m) ∧ (¬ on → v = [] ∧ q = q') := by
  by_cases ho : on
  · obtain ⟨h1, h2, h3⟩ := h.1 ho
    have hc : cdOK z q m = true := by
      cases hh : cdOK z q m
      · rw [h1, hh] at hz
        cases hz
      · rfl
    obtain ⟨a, b, c⟩ := cd_sound hc
    exact ⟨a, fun _ => ⟨by rw [h2, h3]; exact b, by rw [h3]; exact c⟩, fun h => absurd ho h⟩
  · obtain ⟨h1, h2, h3⟩ := h.2 ho
    exact ⟨by rw [← h1]; exact hz, fun h => absurd h ho, fun _ => ⟨h3, h2.symm⟩⟩
theorem StpC.on_ (h : StpC on m z q z' q' v) (hz : z = false) {b T : List UInt8} (hq : on → q = cnt b.length ++ b ++ T ∧ b.length ≤ m) (hm : m < 18446744073709551616) (h0 : ¬ on → q = T ∧ b = []) : z' = false ∧ q' = T ∧ v = b := by
  by_cases ho : on
  · obtain ⟨h1, h2, h3⟩ := h.1 ho
    obtain ⟨e, hb⟩ := hq ho
    subst hz e
    obtain ⟨a, b', c⟩ := cd_on (T := T) hb (by omega)
    exact ⟨by rw [h1, a]; rfl, h2.trans c, h3.trans b'⟩
  · obtain ⟨h1, h2, h3⟩ := h.2 ho
    obtain ⟨e, eb⟩ := h0 ho
    exact ⟨by rw [h1]; exact hz, by rw [h2]; exact e, by rw [h3, eb]⟩
end
end Go.Proofs.Ytkfhcogdpmndkaa
namespace Go.Proofs.Ytkfhcogdpmndkaa
open Go.RowKit
theorem RCount_calls (S : List Nat) (p : Nat) (A : Option Addr) (k cap : Nat) (wr : Bool) (R : Option Addr) (N C : Nat) (whole rest : List UInt8) (most : Nat) (w : World) (h0 : Hp w S [.blk p [.slice A k cap, .bool wr] 74, .row R N C 5 1 (by8 whole)] w) (hcut : Cut R whole A rest) (hk : k = rest.length) (hcap : k ≤ cap) (hN : k ≤ 1000000) : Calls Try.prog 38 #[pt p 0, .int .u64 (most : Int)] w fun e w' => ∃ B b, e = .returned (.int .u64 ((ctV wr rest most : Nat) : Int)) ∧ Hp w S [.blk p [.slice B (ctR wr rest most).length b, .bool (!(ctOK wr rest most))] 74, .row R N C 5 1 (by8 whole)] w' ∧ Cut R whole B (ctR wr rest most) ∧ (ctR wr rest most).length ≤ b := by
  refine calls_G (args := [pt p 0, .int .u64 (most : Int)]) Try.func38 rfl Try.ntmps38 rfl ?_
  intro Q0 hRet hNor hPan
  have H := h0
  have H : Hp w S [.blk p [.slice A k cap, .bool wr] 74, .row R N C 5 1 (by8 whole)] w := H
  refine G.seqK fun K1 hK2 => ?_
  refine G.region ?_
  refine GL.run (j := 1) 1 [0, 1] [(0, pt p 0), (1, .int .u64 (most : Int))] (by kernel_rfl) rfl ?_
  refine GL.k rfl hK2 (fun _ _ h => h) ?_
  refine G.seqK fun K3 hK4 => ?_
  refine G.region ?_
  refine GL.run (j := 1) 1 [0, 1, 7] [(0, pt p 0), (1, .int .u64 (most : Int)), (7, pt p 0)] (by kernel_rfl) rfl ?_
  refine GL.call (j := 2) (Get1_calls (ids [.blk p [.slice A k cap, .bool wr] 74, .row R N C 5 1 (by8 whole)]) p A k cap wr R N C whole rest w (Hp.startL (A := [.blk p [.slice A k cap, .bool wr] 74, .row R N C 5 1 (by8 whole)]) (B := []) H) hcut (hk) (hcap) (hN)) (by kernel_rfl) rfl (fun e_ w9 hR => ?_)
  obtain ⟨A5, c6, rfl, H11, hC7, hL8⟩ := hR
  have H10 : Hp w S [.blk p [.slice A5 ((rR wr rest 1).length) c6, .bool (!(rOK wr rest 1))] 74, .row R N C 5 1 (by8 whole)] w9 := Hp.callL (A := [.blk p [.slice A k cap, .bool wr] 74, .row R N C 5 1 (by8 whole)]) (B := []) H H11
  refine ⟨_, rfl, [0, 1, 8], [(0, pt p 0), (1, .int .u64 (most : Int)), (8, .int .u64 (((getB (rV wr rest 1)) : Nat) : Int))], by kernel_rfl, ?_⟩
  refine GL.run (j := 4) 2 [0, 1, 5, 6] [(0, pt p 0), (1, .int .u64 (most : Int)), (5, .int .u64 (((getB (rV wr rest 1)) : Nat) : Int)), (6, .int .i64 1)] (by kernel_rfl) rfl ?_
  refine GL.k rfl hK4 (fun _ _ h => h) ?_
  refine G.seqK fun K12 hK13 => ?_
  refine G.seqK fun K14 hK15 => ?_
  refine G.region ?_
  refine GL.run (j := 1) 1 [0, 1, 5, 6, 9] [(0, pt p 0), (1, .int .u64 (most : Int)), (5, .int .u64 (((getB (rV wr rest 1)) : Nat) : Int)), (6, .int .i64 1), (9, .int .u64 (((getB (rV wr rest 1)) : Nat) : Int))] (by kernel_rfl) rfl ?_
  refine GL.k rfl hK15 (fun _ _ h => h) ?_
  refine G.block ?_
  refine G.seqK fun K16 hK17 => ?_
  refine G.region ?_
  refine GL.run (j := 2) 2 [0, 1, 5, 6, 9, 10] [(0, pt p 0), (1, .int .u64 (most : Int)), (5, .int .u64 (((getB (rV wr rest 1)) : Nat) : Int)), (6, .int .i64 1), (9, .int .u64 (((getB (rV wr rest 1)) : Nat) : Int)), (10, .bool ((((getB (rV wr rest 1)) : Nat) : Int) == 253))] (by kernel_rfl) rfl ?_
  refine GL.k rfl hK17 (fun _ _ h => h) ?_
  cases hb18 : ((((getB (rV wr rest 1)) : Nat) : Int) == 253)
  · skip
    have hb18f := ne_of_beq_false hb18
    refine G.no rfl ?_
    refine G.seqK fun K19 hK20 => ?_
    refine G.region ?_
    refine GL.run (j := 2) 2 [0, 1, 5, 6, 9, 14] [(0, pt p 0), (1, .int .u64 (most : Int)), (5, .int .u64 (((getB (rV wr rest 1)) : Nat) : Int)), (6, .int .i64 1), (9, .int .u64 (((getB (rV wr rest 1)) : Nat) : Int)), (14, .bool ((((getB (rV wr rest 1)) : Nat) : Int) == 254))] (by kernel_rfl) rfl ?_
    refine GL.k rfl hK20 (fun _ _ h => h) ?_
    cases hb21 : ((((getB (rV wr rest 1)) : Nat) : Int) == 254)
    · skip
      have hb21f := ne_of_beq_false hb21
      refine G.no rfl ?_
      refine G.seqK fun K22 hK23 => ?_
      refine G.region ?_
      refine GL.run (j := 2) 2 [0, 1, 5, 6, 18] [(0, pt p 0), (1, .int .u64 (most : Int)), (5, .int .u64 (((getB (rV wr rest 1)) : Nat) : Int)), (6, .int .i64 1), (18, .bool ((((getB (rV wr rest 1)) : Nat) : Int) == 255))] (by kernel_rfl) rfl ?_
      refine GL.k rfl hK23 (fun _ _ h => h) ?_
      cases hb24 : ((((getB (rV wr rest 1)) : Nat) : Int) == 255)
      · skip
        have hb24f := ne_of_beq_false hb24
        refine G.no rfl ?_
        refine G.skipK hK13 (fun _ _ h => h) ?_
        refine G.seqK fun K25 hK26 => ?_
        refine G.seqK fun K27 hK28 => ?_
        refine G.region ?_
        refine GL.run (j := 1) 1 [0, 1, 5, 6, 22] [(0, pt p 0), (1, .int .u64 (most : Int)), (5, .int .u64 (((getB (rV wr rest 1)) : Nat) : Int)), (6, .int .i64 1), (22, pt p 0)] (by kernel_rfl) rfl ?_
        refine GL.call (j := 2) (Wrong_calls (ids [.blk p [.slice A5 ((rR wr rest 1).length) c6, .bool (!(rOK wr rest 1))] 74, .row R N C 5 1 (by8 whole)]) p A5 ((rR wr rest 1).length) c6 (!(rOK wr rest 1)) R N C whole w9 (Hp.startL (A := [.blk p [.slice A5 ((rR wr rest 1).length) c6, .bool (!(rOK wr rest 1))] 74, .row R N C 5 1 (by8 whole)]) (B := []) H10)) (by kernel_rfl) rfl (fun e_ w29 hR => ?_)
        obtain ⟨rfl, H31⟩ := hR
        have H30 : Hp w S [.blk p [.slice A5 ((rR wr rest 1).length) c6, .bool (!(rOK wr rest 1))] 74, .row R N C 5 1 (by8 whole)] w29 := Hp.callL (A := [.blk p [.slice A5 ((rR wr rest 1).length) c6, .bool (!(rOK wr rest 1))] 74, .row R N C 5 1 (by8 whole)]) (B := []) H10 H31
        refine ⟨_, rfl, [0, 1, 5, 6, 23], [(0, pt p 0), (1, .int .u64 (most : Int)), (5, .int .u64 (((getB (rV wr rest 1)) : Nat) : Int)), (6, .int .i64 1), (23, .bool (!(rOK wr rest 1)))], by kernel_rfl, ?_⟩
        refine GL.run (j := 3) 1 [0, 1, 5, 6, 24] [(0, pt p 0), (1, .int .u64 (most : Int)), (5, .int .u64 (((getB (rV wr rest 1)) : Nat) : Int)), (6, .int .i64 1), (24, .bool (!(rOK wr rest 1)))] (by kernel_rfl) rfl ?_
        cases hb32 : (rOK wr rest 1)
        · skip
          refine GL.run (j := 13) 10 [0, 5, 34] [(0, pt p 0), (5, .int .u64 (((getB (rV wr rest 1)) : Nat) : Int)), (34, .bool true)] (by kernel_rfl) rfl ?_
          refine GL.k rfl hK28 (fun _ _ h => h) ?_
          refine G.yes rfl ?_
          refine G.seqK fun K33 hK34 => ?_
          refine G.region ?_
          refine GL.run (j := 1) 1 [35] [(35, pt p 0)] (by kernel_rfl) rfl ?_
          refine GL.call (j := 2) (Fail_calls (ids [.blk p [.slice A5 ((rR wr rest 1).length) c6, .bool (!(rOK wr rest 1))] 74, .row R N C 5 1 (by8 whole)]) p A5 ((rR wr rest 1).length) c6 (!(rOK wr rest 1)) R N C whole w29 (Hp.startL (A := [.blk p [.slice A5 ((rR wr rest 1).length) c6, .bool (!(rOK wr rest 1))] 74, .row R N C 5 1 (by8 whole)]) (B := []) H30)) (by kernel_rfl) rfl (fun e_ w35 hR => ?_)
          obtain ⟨rfl, H37⟩ := hR
          have H36 : Hp w S [.blk p [.slice none 0 0, .bool true] 74, .row R N C 5 1 (by8 whole)] w35 := Hp.callL (A := [.blk p [.slice A5 ((rR wr rest 1).length) c6, .bool (!(rOK wr rest 1))] 74, .row R N C 5 1 (by8 whole)]) (B := []) H30 H37
          refine ⟨_, rfl, [], [], by kernel_rfl, ?_⟩
          refine GL.k rfl hK34 (fun _ _ h => h) ?_
          refine G.seqK fun K38 hK39 => ?_
          refine G.region ?_
          refine GL.run (j := 1) 1 [4] [(4, .int .u64 0)] (by kernel_rfl) rfl ?_
          refine GL.k rfl hK39 (fun _ _ h => h) ?_
          refine G.ret ?_
          intro F_ hF_ hM_
          refine hRet _ _ (bodyPost_1 rfl (RV.tmp rfl) ?_ F_ hF_ hM_)
          have hn : ctN wr rest = 0 := by unfold ctN; (repeat' split) <;> omega
          obtain ⟨eX, eW, eT⟩ := ct_short hn
          obtain ⟨o1, o2, o3⟩ := ct_bad (most := most) (.inl (by rw [eW, ‹(rOK wr rest 1) = false›]; rfl))
          rw [o1, o2, o3]
          exact ⟨none, 0, rfl, H36, Cut.nil _ _ _, Nat.le_refl _⟩
        · skip
          refine GL.run (j := 5) 2 [0, 1, 5, 24, 25, 26] [(0, pt p 0), (1, .int .u64 (most : Int)), (5, .int .u64 (((getB (rV wr rest 1)) : Nat) : Int)), (24, .bool false), (25, .int .i64 1), (26, .int .u64 (((getB (rV wr rest 1)) : Nat) : Int))] (by kernel_rfl) rfl ?_
          refine GL.call (j := 6) (CountSize_calls (getB (rV wr rest 1)) w29) (by kernel_rfl) rfl (fun e_ w40 hR => ?_)
          obtain ⟨rfl, H42⟩ := hR
          have H41 : Hp w S [.blk p [.slice A5 ((rR wr rest 1).length) c6, .bool (!(rOK wr rest 1))] 74, .row R N C 5 1 (by8 whole)] w40 := H30.callNil H42
          refine ⟨_, rfl, [0, 1, 5, 24, 25, 27], [(0, pt p 0), (1, .int .u64 (most : Int)), (5, .int .u64 (((getB (rV wr rest 1)) : Nat) : Int)), (24, .bool false), (25, .int .i64 1), (27, .int .i64 (((cntSz (getB (rV wr rest 1))) : Nat) : Int))], by kernel_rfl, ?_⟩
          refine GL.run (j := 9) 3 [0, 1, 5, 30] [(0, pt p 0), (1, .int .u64 (most : Int)), (5, .int .u64 (((getB (rV wr rest 1)) : Nat) : Int)), (30, .bool ((1 : Int) != (((cntSz (getB (rV wr rest 1))) : Nat) : Int)))] (by kernel_rfl) rfl ?_
          cases hb43 : ((1 : Int) != (((cntSz (getB (rV wr rest 1))) : Nat) : Int))
          · skip
            have hb43f : (1 : Int) = (((cntSz (getB (rV wr rest 1))) : Nat) : Int) := bne_eq_false_iff_eq.1 hb43
            refine GL.run (j := 13) 4 [0, 5, 34] [(0, pt p 0), (5, .int .u64 (((getB (rV wr rest 1)) : Nat) : Int)), (34, .bool (decide ((most : Int) < (((getB (rV wr rest 1)) : Nat) : Int))))] (by kernel_rfl) rfl ?_
            refine GL.k rfl hK28 (fun _ _ h => h) ?_
            cases hb44 : (decide ((most : Int) < (((getB (rV wr rest 1)) : Nat) : Int)))
            · skip
              have hb44f := of_decide_eq_false hb44
              refine G.no rfl ?_
              refine G.skipK hK26 (fun _ _ h => h) ?_
              refine G.seqK fun K45 hK46 => ?_
              refine G.region ?_
              refine GL.run (j := 2) 2 [4] [(4, .int .u64 (((getB (rV wr rest 1)) : Nat) : Int))] (by kernel_rfl) rfl ?_
              refine GL.k rfl hK46 (fun _ _ h => h) ?_
              refine G.ret ?_
              intro F_ hF_ hM_
              refine hRet _ _ (bodyPost_1 rfl (RV.tmp rfl) ?_ F_ hF_ hM_)
              have hn : ctN wr rest = 0 := by unfold ctN; (repeat' split) <;> omega
              obtain ⟨eX, eW, eT⟩ := ct_short hn
              obtain ⟨o1, o2, o3⟩ := ct_ok (most := most) (by rw [eW, ‹(rOK wr rest 1) = true›]; rfl) (by rw [eX, hn]; omega) (by rw [eX]; omega)
              rw [o1, o2, o3, eX, eT]
              have HF := H41
              rw [‹(rOK wr rest 1) = true›] at HF
              exact ⟨_, _, rfl, HF, hC7, hL8⟩
            · skip
              have hb44f := of_decide_eq_true hb44
              refine G.yes rfl ?_
              refine G.seqK fun K47 hK48 => ?_
              refine G.region ?_
              refine GL.run (j := 1) 1 [35] [(35, pt p 0)] (by kernel_rfl) rfl ?_
              refine GL.call (j := 2) (Fail_calls (ids [.blk p [.slice A5 ((rR wr rest 1).length) c6, .bool (!(rOK wr rest 1))] 74, .row R N C 5 1 (by8 whole)]) p A5 ((rR wr rest 1).length) c6 (!(rOK wr rest 1)) R N C whole w40 (Hp.startL (A := [.blk p [.slice A5 ((rR wr rest 1).length) c6, .bool (!(rOK wr rest 1))] 74, .row R N C 5 1 (by8 whole)]) (B := []) H41)) (by kernel_rfl) rfl (fun e_ w49 hR => ?_)
              obtain ⟨rfl, H51⟩ := hR
              have H50 : Hp w S [.blk p [.slice none 0 0, .bool true] 74, .row R N C 5 1 (by8 whole)] w49 := Hp.callL (A := [.blk p [.slice A5 ((rR wr rest 1).length) c6, .bool (!(rOK wr rest 1))] 74, .row R N C 5 1 (by8 whole)]) (B := []) H41 H51
              refine ⟨_, rfl, [], [], by kernel_rfl, ?_⟩
              refine GL.k rfl hK48 (fun _ _ h => h) ?_
              refine G.seqK fun K52 hK53 => ?_
              refine G.region ?_
              refine GL.run (j := 1) 1 [4] [(4, .int .u64 0)] (by kernel_rfl) rfl ?_
              refine GL.k rfl hK53 (fun _ _ h => h) ?_
              refine G.ret ?_
              intro F_ hF_ hM_
              refine hRet _ _ (bodyPost_1 rfl (RV.tmp rfl) ?_ F_ hF_ hM_)
              have hn : ctN wr rest = 0 := by unfold ctN; (repeat' split) <;> omega
              obtain ⟨eX, eW, eT⟩ := ct_short hn
              obtain ⟨o1, o2, o3⟩ := ct_bad (wr := wr) (rest := rest) (most := most) (.inr (.inr (by rw [eX]; omega)))
              rw [o1, o2, o3]
              exact ⟨none, 0, rfl, H50, Cut.nil _ _ _, Nat.le_refl _⟩
          · skip
            have hb43f : (1 : Int) ≠ (((cntSz (getB (rV wr rest 1))) : Nat) : Int) := bne_iff_ne.1 hb43
            refine GL.run (j := 13) 4 [0, 5, 34] [(0, pt p 0), (5, .int .u64 (((getB (rV wr rest 1)) : Nat) : Int)), (34, .bool true)] (by kernel_rfl) rfl ?_
            refine GL.k rfl hK28 (fun _ _ h => h) ?_
            refine G.yes rfl ?_
            refine G.seqK fun K54 hK55 => ?_
            refine G.region ?_
            refine GL.run (j := 1) 1 [35] [(35, pt p 0)] (by kernel_rfl) rfl ?_
            refine GL.call (j := 2) (Fail_calls (ids [.blk p [.slice A5 ((rR wr rest 1).length) c6, .bool (!(rOK wr rest 1))] 74, .row R N C 5 1 (by8 whole)]) p A5 ((rR wr rest 1).length) c6 (!(rOK wr rest 1)) R N C whole w40 (Hp.startL (A := [.blk p [.slice A5 ((rR wr rest 1).length) c6, .bool (!(rOK wr rest 1))] 74, .row R N C 5 1 (by8 whole)]) (B := []) H41)) (by kernel_rfl) rfl (fun e_ w56 hR => ?_)
            obtain ⟨rfl, H58⟩ := hR
            have H57 : Hp w S [.blk p [.slice none 0 0, .bool true] 74, .row R N C 5 1 (by8 whole)] w56 := Hp.callL (A := [.blk p [.slice A5 ((rR wr rest 1).length) c6, .bool (!(rOK wr rest 1))] 74, .row R N C 5 1 (by8 whole)]) (B := []) H41 H58
            refine ⟨_, rfl, [], [], by kernel_rfl, ?_⟩
            refine GL.k rfl hK55 (fun _ _ h => h) ?_
            refine G.seqK fun K59 hK60 => ?_
            refine G.region ?_
            refine GL.run (j := 1) 1 [4] [(4, .int .u64 0)] (by kernel_rfl) rfl ?_
            refine GL.k rfl hK60 (fun _ _ h => h) ?_
            refine G.ret ?_
            intro F_ hF_ hM_
            refine hRet _ _ (bodyPost_1 rfl (RV.tmp rfl) ?_ F_ hF_ hM_)
            have hn : ctN wr rest = 0 := by unfold ctN; (repeat' split) <;> omega
            obtain ⟨eX, eW, eT⟩ := ct_short hn
            obtain ⟨o1, o2, o3⟩ := ct_bad (wr := wr) (rest := rest) (most := most) (.inr (.inl (by rw [eX, hn]; omega)))
            rw [o1, o2, o3]
            exact ⟨none, 0, rfl, H57, Cut.nil _ _ _, Nat.le_refl _⟩
      · skip
        have hb24f := eq_of_beq hb24
        refine G.yes rfl ?_
        refine G.region ?_
        refine GL.run (j := 1) 1 [0, 1, 20] [(0, pt p 0), (1, .int .u64 (most : Int)), (20, pt p 0)] (by kernel_rfl) rfl ?_
        refine GL.call (j := 2) (Get8_calls (ids [.blk p [.slice A5 ((rR wr rest 1).length) c6, .bool (!(rOK wr rest 1))] 74, .row R N C 5 1 (by8 whole)]) p A5 ((rR wr rest 1).length) c6 (!(rOK wr rest 1)) R N C whole (rR wr rest 1) w9 (Hp.startL (A := [.blk p [.slice A5 ((rR wr rest 1).length) c6, .bool (!(rOK wr rest 1))] 74, .row R N C 5 1 (by8 whole)]) (B := []) H10) hC7 (rfl) (hL8) ((Nat.le_trans (rR_le _ _ _) (hk ▸ hN)))) (by kernel_rfl) rfl (fun e_ w65 hR => ?_)
        obtain ⟨A61, c62, rfl, H67, hC63, hL64⟩ := hR
        have H66 : Hp w S [.blk p [.slice A61 ((rR (!(rOK wr rest 1)) (rR wr rest 1) 8).length) c62, .bool (!(rOK (!(rOK wr rest 1)) (rR wr rest 1) 8))] 74, .row R N C 5 1 (by8 whole)] w65 := Hp.callL (A := [.blk p [.slice A5 ((rR wr rest 1).length) c6, .bool (!(rOK wr rest 1))] 74, .row R N C 5 1 (by8 whole)]) (B := []) H10 H67
        refine ⟨_, rfl, [0, 1, 21], [(0, pt p 0), (1, .int .u64 (most : Int)), (21, .int .u64 (((getB (rV (!(rOK wr rest 1)) (rR wr rest 1) 8)) : Nat) : Int))], by kernel_rfl, ?_⟩
        refine GL.run (j := 4) 2 [0, 1, 5, 6] [(0, pt p 0), (1, .int .u64 (most : Int)), (5, .int .u64 (((getB (rV (!(rOK wr rest 1)) (rR wr rest 1) 8)) : Nat) : Int)), (6, .int .i64 9)] (by kernel_rfl) rfl ?_
        refine GL.k rfl hK13 (fun _ _ h => h) ?_
        refine G.seqK fun K68 hK69 => ?_
        refine G.seqK fun K70 hK71 => ?_
        refine G.region ?_
        refine GL.run (j := 1) 1 [0, 1, 5, 6, 22] [(0, pt p 0), (1, .int .u64 (most : Int)), (5, .int .u64 (((getB (rV (!(rOK wr rest 1)) (rR wr rest 1) 8)) : Nat) : Int)), (6, .int .i64 9), (22, pt p 0)] (by kernel_rfl) rfl ?_
        refine GL.call (j := 2) (Wrong_calls (ids [.blk p [.slice A61 ((rR (!(rOK wr rest 1)) (rR wr rest 1) 8).length) c62, .bool (!(rOK (!(rOK wr rest 1)) (rR wr rest 1) 8))] 74, .row R N C 5 1 (by8 whole)]) p A61 ((rR (!(rOK wr rest 1)) (rR wr rest 1) 8).length) c62 (!(rOK (!(rOK wr rest 1)) (rR wr rest 1) 8)) R N C whole w65 (Hp.startL (A := [.blk p [.slice A61 ((rR (!(rOK wr rest 1)) (rR wr rest 1) 8).length) c62, .bool (!(rOK (!(rOK wr rest 1)) (rR wr rest 1) 8))] 74, .row R N C 5 1 (by8 whole)]) (B := []) H66)) (by kernel_rfl) rfl (fun e_ w72 hR => ?_)
        obtain ⟨rfl, H74⟩ := hR
        have H73 : Hp w S [.blk p [.slice A61 ((rR (!(rOK wr rest 1)) (rR wr rest 1) 8).length) c62, .bool (!(rOK (!(rOK wr rest 1)) (rR wr rest 1) 8))] 74, .row R N C 5 1 (by8 whole)] w72 := Hp.callL (A := [.blk p [.slice A61 ((rR (!(rOK wr rest 1)) (rR wr rest 1) 8).length) c62, .bool (!(rOK (!(rOK wr rest 1)) (rR wr rest 1) 8))] 74, .row R N C 5 1 (by8 whole)]) (B := []) H66 H74
        refine ⟨_, rfl, [0, 1, 5, 6, 23], [(0, pt p 0), (1, .int .u64 (most : Int)), (5, .int .u64 (((getB (rV (!(rOK wr rest 1)) (rR wr rest 1) 8)) : Nat) : Int)), (6, .int .i64 9), (23, .bool (!(rOK (!(rOK wr rest 1)) (rR wr rest 1) 8)))], by kernel_rfl, ?_⟩
        refine GL.run (j := 3) 1 [0, 1, 5, 6, 24] [(0, pt p 0), (1, .int .u64 (most : Int)), (5, .int .u64 (((getB (rV (!(rOK wr rest 1)) (rR wr rest 1) 8)) : Nat) : Int)), (6, .int .i64 9), (24, .bool (!(rOK (!(rOK wr rest 1)) (rR wr rest 1) 8)))] (by kernel_rfl) rfl ?_
        cases hb75 : (rOK (!(rOK wr rest 1)) (rR wr rest 1) 8)
        · skip
          refine GL.run (j := 13) 10 [0, 5, 34] [(0, pt p 0), (5, .int .u64 (((getB (rV (!(rOK wr rest 1)) (rR wr rest 1) 8)) : Nat) : Int)), (34, .bool true)] (by kernel_rfl) rfl ?_
          refine GL.k rfl hK71 (fun _ _ h => h) ?_
          refine G.yes rfl ?_
          refine G.seqK fun K76 hK77 => ?_
          refine G.region ?_
          refine GL.run (j := 1) 1 [35] [(35, pt p 0)] (by kernel_rfl) rfl ?_
          refine GL.call (j := 2) (Fail_calls (ids [.blk p [.slice A61 ((rR (!(rOK wr rest 1)) (rR wr rest 1) 8).length) c62, .bool (!(rOK (!(rOK wr rest 1)) (rR wr rest 1) 8))] 74, .row R N C 5 1 (by8 whole)]) p A61 ((rR (!(rOK wr rest 1)) (rR wr rest 1) 8).length) c62 (!(rOK (!(rOK wr rest 1)) (rR wr rest 1) 8)) R N C whole w72 (Hp.startL (A := [.blk p [.slice A61 ((rR (!(rOK wr rest 1)) (rR wr rest 1) 8).length) c62, .bool (!(rOK (!(rOK wr rest 1)) (rR wr rest 1) 8))] 74, .row R N C 5 1 (by8 whole)]) (B := []) H73)) (by kernel_rfl) rfl (fun e_ w78 hR => ?_)
          obtain ⟨rfl, H80⟩ := hR
          have H79 : Hp w S [.blk p [.slice none 0 0, .bool true] 74, .row R N C 5 1 (by8 whole)] w78 := Hp.callL (A := [.blk p [.slice A61 ((rR (!(rOK wr rest 1)) (rR wr rest 1) 8).length) c62, .bool (!(rOK (!(rOK wr rest 1)) (rR wr rest 1) 8))] 74, .row R N C 5 1 (by8 whole)]) (B := []) H73 H80
          refine ⟨_, rfl, [], [], by kernel_rfl, ?_⟩
          refine GL.k rfl hK77 (fun _ _ h => h) ?_
          refine G.seqK fun K81 hK82 => ?_
          refine G.region ?_
          refine GL.run (j := 1) 1 [4] [(4, .int .u64 0)] (by kernel_rfl) rfl ?_
          refine GL.k rfl hK82 (fun _ _ h => h) ?_
          refine G.ret ?_
          intro F_ hF_ hM_
          refine hRet _ _ (bodyPost_1 rfl (RV.tmp rfl) ?_ F_ hF_ hM_)
          have hn : ctN wr rest = 8 := by unfold ctN; (repeat' split) <;> omega
          obtain ⟨eX, eW, eT⟩ := ct_long hn (by decide)
          obtain ⟨o1, o2, o3⟩ := ct_bad (most := most) (.inl (by rw [eW, ‹(rOK (!(rOK wr rest 1)) (rR wr rest 1) 8) = false›]; rfl))
          rw [o1, o2, o3]
          exact ⟨none, 0, rfl, H79, Cut.nil _ _ _, Nat.le_refl _⟩
        · skip
          refine GL.run (j := 5) 2 [0, 1, 5, 24, 25, 26] [(0, pt p 0), (1, .int .u64 (most : Int)), (5, .int .u64 (((getB (rV (!(rOK wr rest 1)) (rR wr rest 1) 8)) : Nat) : Int)), (24, .bool false), (25, .int .i64 9), (26, .int .u64 (((getB (rV (!(rOK wr rest 1)) (rR wr rest 1) 8)) : Nat) : Int))] (by kernel_rfl) rfl ?_
          refine GL.call (j := 6) (CountSize_calls (getB (rV (!(rOK wr rest 1)) (rR wr rest 1) 8)) w72) (by kernel_rfl) rfl (fun e_ w83 hR => ?_)
          obtain ⟨rfl, H85⟩ := hR
          have H84 : Hp w S [.blk p [.slice A61 ((rR (!(rOK wr rest 1)) (rR wr rest 1) 8).length) c62, .bool (!(rOK (!(rOK wr rest 1)) (rR wr rest 1) 8))] 74, .row R N C 5 1 (by8 whole)] w83 := H73.callNil H85
          refine ⟨_, rfl, [0, 1, 5, 24, 25, 27], [(0, pt p 0), (1, .int .u64 (most : Int)), (5, .int .u64 (((getB (rV (!(rOK wr rest 1)) (rR wr rest 1) 8)) : Nat) : Int)), (24, .bool false), (25, .int .i64 9), (27, .int .i64 (((cntSz (getB (rV (!(rOK wr rest 1)) (rR wr rest 1) 8))) : Nat) : Int))], by kernel_rfl, ?_⟩
          refine GL.run (j := 9) 3 [0, 1, 5, 30] [(0, pt p 0), (1, .int .u64 (most : Int)), (5, .int .u64 (((getB (rV (!(rOK wr rest 1)) (rR wr rest 1) 8)) : Nat) : Int)), (30, .bool ((9 : Int) != (((cntSz (getB (rV (!(rOK wr rest 1)) (rR wr rest 1) 8))) : Nat) : Int)))] (by kernel_rfl) rfl ?_
          cases hb86 : ((9 : Int) != (((cntSz (getB (rV (!(rOK wr rest 1)) (rR wr rest 1) 8))) : Nat) : Int))
          · skip
            have hb86f : (9 : Int) = (((cntSz (getB (rV (!(rOK wr rest 1)) (rR wr rest 1) 8))) : Nat) : Int) := bne_eq_false_iff_eq.1 hb86
            refine GL.run (j := 13) 4 [0, 5, 34] [(0, pt p 0), (5, .int .u64 (((getB (rV (!(rOK wr rest 1)) (rR wr rest 1) 8)) : Nat) : Int)), (34, .bool (decide ((most : Int) < (((getB (rV (!(rOK wr rest 1)) (rR wr rest 1) 8)) : Nat) : Int))))] (by kernel_rfl) rfl ?_
            refine GL.k rfl hK71 (fun _ _ h => h) ?_
            cases hb87 : (decide ((most : Int) < (((getB (rV (!(rOK wr rest 1)) (rR wr rest 1) 8)) : Nat) : Int)))
            · skip
              have hb87f := of_decide_eq_false hb87
              refine G.no rfl ?_
              refine G.skipK hK69 (fun _ _ h => h) ?_
              refine G.seqK fun K88 hK89 => ?_
              refine G.region ?_
              refine GL.run (j := 2) 2 [4] [(4, .int .u64 (((getB (rV (!(rOK wr rest 1)) (rR wr rest 1) 8)) : Nat) : Int))] (by kernel_rfl) rfl ?_
              refine GL.k rfl hK89 (fun _ _ h => h) ?_
              refine G.ret ?_
              intro F_ hF_ hM_
              refine hRet _ _ (bodyPost_1 rfl (RV.tmp rfl) ?_ F_ hF_ hM_)
              have hn : ctN wr rest = 8 := by unfold ctN; (repeat' split) <;> omega
              obtain ⟨eX, eW, eT⟩ := ct_long hn (by decide)
              obtain ⟨o1, o2, o3⟩ := ct_ok (most := most) (by rw [eW, ‹(rOK (!(rOK wr rest 1)) (rR wr rest 1) 8) = true›]; rfl) (by rw [eX, hn]; omega) (by rw [eX]; omega)
              rw [o1, o2, o3, eX, eT]
              have HF := H84
              rw [‹(rOK (!(rOK wr rest 1)) (rR wr rest 1) 8) = true›] at HF
              exact ⟨_, _, rfl, HF, hC63, hL64⟩
            · skip
              have hb87f := of_decide_eq_true hb87
              refine G.yes rfl ?_
              refine G.seqK fun K90 hK91 => ?_
              refine G.region ?_
              refine GL.run (j := 1) 1 [35] [(35, pt p 0)] (by kernel_rfl) rfl ?_
              refine GL.call (j := 2) (Fail_calls (ids [.blk p [.slice A61 ((rR (!(rOK wr rest 1)) (rR wr rest 1) 8).length) c62, .bool (!(rOK (!(rOK wr rest 1)) (rR wr rest 1) 8))] 74, .row R N C 5 1 (by8 whole)]) p A61 ((rR (!(rOK wr rest 1)) (rR wr rest 1) 8).length) c62 (!(rOK (!(rOK wr rest 1)) (rR wr rest 1) 8)) R N C whole w83 (Hp.startL (A := [.blk p [.slice A61 ((rR (!(rOK wr rest 1)) (rR wr rest 1) 8).length) c62, .bool (!(rOK (!(rOK wr rest 1)) (rR wr rest 1) 8))] 74, .row R N C 5 1 (by8 whole)]) (B := []) H84)) (by kernel_rfl) rfl (fun e_ w92 hR => ?_)
              obtain ⟨rfl, H94⟩ := hR
              have H93 : Hp w S [.blk p [.slice none 0 0, .bool true] 74, .row R N C 5 1 (by8 whole)] w92 := Hp.callL (A := [.blk p [.slice A61 ((rR (!(rOK wr rest 1)) (rR wr rest 1) 8).length) c62, .bool (!(rOK (!(rOK wr rest 1)) (rR wr rest 1) 8))] 74, .row R N C 5 1 (by8 whole)]) (B := []) H84 H94
              refine ⟨_, rfl, [], [], by kernel_rfl, ?_⟩
              refine GL.k rfl hK91 (fun _ _ h => h) ?_
              refine G.seqK fun K95 hK96 => ?_
              refine G.region ?_
              refine GL.run (j := 1) 1 [4] [(4, .int .u64 0)] (by kernel_rfl) rfl ?_
              refine GL.k rfl hK96 (fun _ _ h => h) ?_
              refine G.ret ?_
              intro F_ hF_ hM_
              refine hRet _ _ (bodyPost_1 rfl (RV.tmp rfl) ?_ F_ hF_ hM_)
              have hn : ctN wr rest = 8 := by unfold ctN; (repeat' split) <;> omega
              obtain ⟨eX, eW, eT⟩ := ct_long hn (by decide)
              obtain ⟨o1, o2, o3⟩ := ct_bad (wr := wr) (rest := rest) (most := most) (.inr (.inr (by rw [eX]; omega)))
              rw [o1, o2, o3]
              exact ⟨none, 0, rfl, H93, Cut.nil _ _ _, Nat.le_refl _⟩
          · skip
            have hb86f : (9 : Int) ≠ (((cntSz (getB (rV (!(rOK wr rest 1)) (rR wr rest 1) 8))) : Nat) : Int) := bne_iff_ne.1 hb86
            refine GL.run (j := 13) 4 [0, 5, 34] [(0, pt p 0), (5, .int .u64 (((getB (rV (!(rOK wr rest 1)) (rR wr rest 1) 8)) : Nat) : Int)), (34, .bool true)] (by kernel_rfl) rfl ?_
            refine GL.k rfl hK71 (fun _ _ h => h) ?_
            refine G.yes rfl ?_
            refine G.seqK fun K97 hK98 => ?_
            refine G.region ?_
            refine GL.run (j := 1) 1 [35] [(35, pt p 0)] (by kernel_rfl) rfl ?_
            refine GL.call (j := 2) (Fail_calls (ids [.blk p [.slice A61 ((rR (!(rOK wr rest 1)) (rR wr rest 1) 8).length) c62, .bool (!(rOK (!(rOK wr rest 1)) (rR wr rest 1) 8))] 74, .row R N C 5 1 (by8 whole)]) p A61 ((rR (!(rOK wr rest 1)) (rR wr rest 1) 8).length) c62 (!(rOK (!(rOK wr rest 1)) (rR wr rest 1) 8)) R N C whole w83 (Hp.startL (A := [.blk p [.slice A61 ((rR (!(rOK wr rest 1)) (rR wr rest 1) 8).length) c62, .bool (!(rOK (!(rOK wr rest 1)) (rR wr rest 1) 8))] 74, .row R N C 5 1 (by8 whole)]) (B := []) H84)) (by kernel_rfl) rfl (fun e_ w99 hR => ?_)
            obtain ⟨rfl, H101⟩ := hR
            have H100 : Hp w S [.blk p [.slice none 0 0, .bool true] 74, .row R N C 5 1 (by8 whole)] w99 := Hp.callL (A := [.blk p [.slice A61 ((rR (!(rOK wr rest 1)) (rR wr rest 1) 8).length) c62, .bool (!(rOK (!(rOK wr rest 1)) (rR wr rest 1) 8))] 74, .row R N C 5 1 (by8 whole)]) (B := []) H84 H101
            refine ⟨_, rfl, [], [], by kernel_rfl, ?_⟩
            refine GL.k rfl hK98 (fun _ _ h => h) ?_
            refine G.seqK fun K102 hK103 => ?_
            refine G.region ?_
            refine GL.run (j := 1) 1 [4] [(4, .int .u64 0)] (by kernel_rfl) rfl ?_
            refine GL.k rfl hK103 (fun _ _ h => h) ?_
            refine G.ret ?_
            intro F_ hF_ hM_
            refine hRet _ _ (bodyPost_1 rfl (RV.tmp rfl) ?_ F_ hF_ hM_)
            have hn : ctN wr rest = 8 := by unfold ctN; (repeat' split) <;> omega
            obtain ⟨eX, eW, eT⟩ := ct_long hn (by decide)
            obtain ⟨o1, o2, o3⟩ := ct_bad (wr := wr) (rest := rest) (most := most) (.inr (.inl (by rw [eX, hn]; omega)))
            rw [o1, o2, o3]
            exact ⟨none, 0, rfl, H100, Cut.nil _ _ _, Nat.le_refl _⟩
    · skip
      have hb21f := eq_of_beq hb21
      refine G.yes rfl ?_
      refine G.region ?_
      refine GL.run (j := 1) 1 [0, 1, 16] [(0, pt p 0), (1, .int .u64 (most : Int)), (16, pt p 0)] (by kernel_rfl) rfl ?_
      refine GL.call (j := 2) (Get4_calls (ids [.blk p [.slice A5 ((rR wr rest 1).length) c6, .bool (!(rOK wr rest 1))] 74, .row R N C 5 1 (by8 whole)]) p A5 ((rR wr rest 1).length) c6 (!(rOK wr rest 1)) R N C whole (rR wr rest 1) w9 (Hp.startL (A := [.blk p [.slice A5 ((rR wr rest 1).length) c6, .bool (!(rOK wr rest 1))] 74, .row R N C 5 1 (by8 whole)]) (B := []) H10) hC7 (rfl) (hL8) ((Nat.le_trans (rR_le _ _ _) (hk ▸ hN)))) (by kernel_rfl) rfl (fun e_ w108 hR => ?_)
      obtain ⟨A104, c105, rfl, H110, hC106, hL107⟩ := hR
      have H109 : Hp w S [.blk p [.slice A104 ((rR (!(rOK wr rest 1)) (rR wr rest 1) 4).length) c105, .bool (!(rOK (!(rOK wr rest 1)) (rR wr rest 1) 4))] 74, .row R N C 5 1 (by8 whole)] w108 := Hp.callL (A := [.blk p [.slice A5 ((rR wr rest 1).length) c6, .bool (!(rOK wr rest 1))] 74, .row R N C 5 1 (by8 whole)]) (B := []) H10 H110
      refine ⟨_, rfl, [0, 1, 17], [(0, pt p 0), (1, .int .u64 (most : Int)), (17, .int .u64 (((getB (rV (!(rOK wr rest 1)) (rR wr rest 1) 4)) : Nat) : Int))], by kernel_rfl, ?_⟩
      refine GL.run (j := 4) 2 [0, 1, 5, 6] [(0, pt p 0), (1, .int .u64 (most : Int)), (5, .int .u64 (((getB (rV (!(rOK wr rest 1)) (rR wr rest 1) 4)) : Nat) : Int)), (6, .int .i64 5)] (by kernel_rfl) rfl ?_
      refine GL.k rfl hK13 (fun _ _ h => h) ?_
      refine G.seqK fun K111 hK112 => ?_
      refine G.seqK fun K113 hK114 => ?_
      refine G.region ?_
      refine GL.run (j := 1) 1 [0, 1, 5, 6, 22] [(0, pt p 0), (1, .int .u64 (most : Int)), (5, .int .u64 (((getB (rV (!(rOK wr rest 1)) (rR wr rest 1) 4)) : Nat) : Int)), (6, .int .i64 5), (22, pt p 0)] (by kernel_rfl) rfl ?_
      refine GL.call (j := 2) (Wrong_calls (ids [.blk p [.slice A104 ((rR (!(rOK wr rest 1)) (rR wr rest 1) 4).length) c105, .bool (!(rOK (!(rOK wr rest 1)) (rR wr rest 1) 4))] 74, .row R N C 5 1 (by8 whole)]) p A104 ((rR (!(rOK wr rest 1)) (rR wr rest 1) 4).length) c105 (!(rOK (!(rOK wr rest 1)) (rR wr rest 1) 4)) R N C whole w108 (Hp.startL (A := [.blk p [.slice A104 ((rR (!(rOK wr rest 1)) (rR wr rest 1) 4).length) c105, .bool (!(rOK (!(rOK wr rest 1)) (rR wr rest 1) 4))] 74, .row R N C 5 1 (by8 whole)]) (B := []) H109)) (by kernel_rfl) rfl (fun e_ w115 hR => ?_)
      obtain ⟨rfl, H117⟩ := hR
      have H116 : Hp w S [.blk p [.slice A104 ((rR (!(rOK wr rest 1)) (rR wr rest 1) 4).length) c105, .bool (!(rOK (!(rOK wr rest 1)) (rR wr rest 1) 4))] 74, .row R N C 5 1 (by8 whole)] w115 := Hp.callL (A := [.blk p [.slice A104 ((rR (!(rOK wr rest 1)) (rR wr rest 1) 4).length) c105, .bool (!(rOK (!(rOK wr rest 1)) (rR wr rest 1) 4))] 74, .row R N C 5 1 (by8 whole)]) (B := []) H109 H117
      refine ⟨_, rfl, [0, 1, 5, 6, 23], [(0, pt p 0), (1, .int .u64 (most : Int)), (5, .int .u64 (((getB (rV (!(rOK wr rest 1)) (rR wr rest 1) 4)) : Nat) : Int)), (6, .int .i64 5), (23, .bool (!(rOK (!(rOK wr rest 1)) (rR wr rest 1) 4)))], by kernel_rfl, ?_⟩
      refine GL.run (j := 3) 1 [0, 1, 5, 6, 24] [(0, pt p 0), (1, .int .u64 (most : Int)), (5, .int .u64 (((getB (rV (!(rOK wr rest 1)) (rR wr rest 1) 4)) : Nat) : Int)), (6, .int .i64 5), (24, .bool (!(rOK (!(rOK wr rest 1)) (rR wr rest 1) 4)))] (by kernel_rfl) rfl ?_
      cases hb118 : (rOK (!(rOK wr rest 1)) (rR wr rest 1) 4)
      · skip
        refine GL.run (j := 13) 10 [0, 5, 34] [(0, pt p 0), (5, .int .u64 (((getB (rV (!(rOK wr rest 1)) (rR wr rest 1) 4)) : Nat) : Int)), (34, .bool true)] (by kernel_rfl) rfl ?_
        refine GL.k rfl hK114 (fun _ _ h => h) ?_
        refine G.yes rfl ?_
        refine G.seqK fun K119 hK120 => ?_
        refine G.region ?_
        refine GL.run (j := 1) 1 [35] [(35, pt p 0)] (by kernel_rfl) rfl ?_
        refine GL.call (j := 2) (Fail_calls (ids [.blk p [.slice A104 ((rR (!(rOK wr rest 1)) (rR wr rest 1) 4).length) c105, .bool (!(rOK (!(rOK wr rest 1)) (rR wr rest 1) 4))] 74, .row R N C 5 1 (by8 whole)]) p A104 ((rR (!(rOK wr rest 1)) (rR wr rest 1) 4).length) c105 (!(rOK (!(rOK wr rest 1)) (rR wr rest 1) 4)) R N C whole w115 (Hp.startL (A := [.blk p [.slice A104 ((rR (!(rOK wr rest 1)) (rR wr rest 1) 4).length) c105, .bool (!(rOK (!(rOK wr rest 1)) (rR wr rest 1) 4))] 74, .row R N C 5 1 (by8 whole)]) (B := []) H116)) (by kernel_rfl) rfl (fun e_ w121 hR => ?_)
        obtain ⟨rfl, H123⟩ := hR
        have H122 : Hp w S [.blk p [.slice none 0 0, .bool true] 74, .row R N C 5 1 (by8 whole)] w121 := Hp.callL (A := [.blk p [.slice A104 ((rR (!(rOK wr rest 1)) (rR wr rest 1) 4).length) c105, .bool (!(rOK (!(rOK wr rest 1)) (rR wr rest 1) 4))] 74, .row R N C 5 1 (by8 whole)]) (B := []) H116 H123
        refine ⟨_, rfl, [], [], by kernel_rfl, ?_⟩
        refine GL.k rfl hK120 (fun _ _ h => h) ?_
        refine G.seqK fun K124 hK125 => ?_
        refine G.region ?_
        refine GL.run (j := 1) 1 [4] [(4, .int .u64 0)] (by kernel_rfl) rfl ?_
        refine GL.k rfl hK125 (fun _ _ h => h) ?_
        refine G.ret ?_
        intro F_ hF_ hM_
        refine hRet _ _ (bodyPost_1 rfl (RV.tmp rfl) ?_ F_ hF_ hM_)
        have hn : ctN wr rest = 4 := by unfold ctN; (repeat' split) <;> omega
        obtain ⟨eX, eW, eT⟩ := ct_long hn (by decide)
        obtain ⟨o1, o2, o3⟩ := ct_bad (most := most) (.inl (by rw [eW, ‹(rOK (!(rOK wr rest 1)) (rR wr rest 1) 4) = false›]; rfl))
        rw [o1, o2, o3]
        exact ⟨none, 0, rfl, H122, Cut.nil _ _ _, Nat.le_refl _⟩
      · skip
        refine GL.run (j := 5) 2 [0, 1, 5, 24, 25, 26] [(0, pt p 0), (1, .int .u64 (most : Int)), (5, .int .u64 (((getB (rV (!(rOK wr rest 1)) (rR wr rest 1) 4)) : Nat) : Int)), (24, .bool false), (25, .int .i64 5), (26, .int .u64 (((getB (rV (!(rOK wr rest 1)) (rR wr rest 1) 4)) : Nat) : Int))] (by kernel_rfl) rfl ?_
        refine GL.call (j := 6) (CountSize_calls (getB (rV (!(rOK wr rest 1)) (rR wr rest 1) 4)) w115) (by kernel_rfl) rfl (fun e_ w126 hR => ?_)
        obtain ⟨rfl, H128⟩ := hR
        have H127 : Hp w S [.blk p [.slice A104 ((rR (!(rOK wr rest 1)) (rR wr rest 1) 4).length) c105, .bool (!(rOK (!(rOK wr rest 1)) (rR wr rest 1) 4))] 74, .row R N C 5 1 (by8 whole)] w126 := H116.callNil H128
        refine ⟨_, rfl, [0, 1, 5, 24, 25, 27], [(0, pt p 0), (1, .int .u64 (most : Int)), (5, .int .u64 (((getB (rV (!(rOK wr rest 1)) (rR wr rest 1) 4)) : Nat) : Int)), (24, .bool false), (25, .int .i64 5), (27, .int .i64 (((cntSz (getB (rV (!(rOK wr rest 1)) (rR wr rest 1) 4))) : Nat) : Int))], by kernel_rfl, ?_⟩
        refine GL.run (j := 9) 3 [0, 1, 5, 30] [(0, pt p 0), (1, .int .u64 (most : Int)), (5, .int .u64 (((getB (rV (!(rOK wr rest 1)) (rR wr rest 1) 4)) : Nat) : Int)), (30, .bool ((5 : Int) != (((cntSz (getB (rV (!(rOK wr rest 1)) (rR wr rest 1) 4))) : Nat) : Int)))] (by kernel_rfl) rfl ?_
        cases hb129 : ((5 : Int) != (((cntSz (getB (rV (!(rOK wr rest 1)) (rR wr rest 1) 4))) : Nat) : Int))
        · skip
          have hb129f : (5 : Int) = (((cntSz (getB (rV (!(rOK wr rest 1)) (rR wr rest 1) 4))) : Nat) : Int) := bne_eq_false_iff_eq.1 hb129
          refine GL.run (j := 13) 4 [0, 5, 34] [(0, pt p 0), (5, .int .u64 (((getB (rV (!(rOK wr rest 1)) (rR wr rest 1) 4)) : Nat) : Int)), (34, .bool (decide ((most : Int) < (((getB (rV (!(rOK wr rest 1)) (rR wr rest 1) 4)) : Nat) : Int))))] (by kernel_rfl) rfl ?_
          refine GL.k rfl hK114 (fun _ _ h => h) ?_
          cases hb130 : (decide ((most : Int) < (((getB (rV (!(rOK wr rest 1)) (rR wr rest 1) 4)) : Nat) : Int)))
          · skip
            have hb130f := of_decide_eq_false hb130
            refine G.no rfl ?_
            refine G.skipK hK112 (fun _ _ h => h) ?_
            refine G.seqK fun K131 hK132 => ?_
            refine G.region ?_
            refine GL.run (j := 2) 2 [4] [(4, .int .u64 (((getB (rV (!(rOK wr rest 1)) (rR wr rest 1) 4)) : Nat) : Int))] (by kernel_rfl) rfl ?_
            refine GL.k rfl hK132 (fun _ _ h => h) ?_
            refine G.ret ?_
            intro F_ hF_ hM_
            refine hRet _ _ (bodyPost_1 rfl (RV.tmp rfl) ?_ F_ hF_ hM_)
            have hn : ctN wr rest = 4 := by unfold ctN; (repeat' split) <;> omega
            obtain ⟨eX, eW, eT⟩ := ct_long hn (by decide)
            obtain ⟨o1, o2, o3⟩ := ct_ok (most := most) (by rw [eW, ‹(rOK (!(rOK wr rest 1)) (rR wr rest 1) 4) = true›]; rfl) (by rw [eX, hn]; omega) (by rw [eX]; omega)
            rw [o1, o2, o3, eX, eT]
            have HF := H127
            rw [‹(rOK (!(rOK wr rest 1)) (rR wr rest 1) 4) = true›] at HF
            exact ⟨_, _, rfl, HF, hC106, hL107⟩
          · skip
            have hb130f := of_decide_eq_true hb130
            refine G.yes rfl ?_
            refine G.seqK fun K133 hK134 => ?_
            refine G.region ?_
            refine GL.run (j := 1) 1 [35] [(35, pt p 0)] (by kernel_rfl) rfl ?_
            refine GL.call (j := 2) (Fail_calls (ids [.blk p [.slice A104 ((rR (!(rOK wr rest 1)) (rR wr rest 1) 4).length) c105, .bool (!(rOK (!(rOK wr rest 1)) (rR wr rest 1) 4))] 74, .row R N C 5 1 (by8 whole)]) p A104 ((rR (!(rOK wr rest 1)) (rR wr rest 1) 4).length) c105 (!(rOK (!(rOK wr rest 1)) (rR wr rest 1) 4)) R N C whole w126 (Hp.startL (A := [.blk p [.slice A104 ((rR (!(rOK wr rest 1)) (rR wr rest 1) 4).length) c105, .bool (!(rOK (!(rOK wr rest 1)) (rR wr rest 1) 4))] 74, .row R N C 5 1 (by8 whole)]) (B := []) H127)) (by kernel_rfl) rfl (fun e_ w135 hR => ?_)
            obtain ⟨rfl, H137⟩ := hR
            have H136 : Hp w S [.blk p [.slice none 0 0, .bool true] 74, .row R N C 5 1 (by8 whole)] w135 := Hp.callL (A := [.blk p [.slice A104 ((rR (!(rOK wr rest 1)) (rR wr rest 1) 4).length) c105, .bool (!(rOK (!(rOK wr rest 1)) (rR wr rest 1) 4))] 74, .row R N C 5 1 (by8 whole)]) (B := []) H127 H137
            refine ⟨_, rfl, [], [], by kernel_rfl, ?_⟩
            refine GL.k rfl hK134 (fun _ _ h => h) ?_
            refine G.seqK fun K138 hK139 => ?_
            refine G.region ?_
            refine GL.run (j := 1) 1 [4] [(4, .int .u64 0)] (by kernel_rfl) rfl ?_
            refine GL.k rfl hK139 (fun _ _ h => h) ?_
            refine G.ret ?_
            intro F_ hF_ hM_
            refine hRet _ _ (bodyPost_1 rfl (RV.tmp rfl) ?_ F_ hF_ hM_)
            have hn : ctN wr rest = 4 := by unfold ctN; (repeat' split) <;> omega
            obtain ⟨eX, eW, eT⟩ := ct_long hn (by decide)
            obtain ⟨o1, o2, o3⟩ := ct_bad (wr := wr) (rest := rest) (most := most) (.inr (.inr (by rw [eX]; omega)))
            rw [o1, o2, o3]
            exact ⟨none, 0, rfl, H136, Cut.nil _ _ _, Nat.le_refl _⟩
        · skip
          have hb129f : (5 : Int) ≠ (((cntSz (getB (rV (!(rOK wr rest 1)) (rR wr rest 1) 4))) : Nat) : Int) := bne_iff_ne.1 hb129
          refine GL.run (j := 13) 4 [0, 5, 34] [(0, pt p 0), (5, .int .u64 (((getB (rV (!(rOK wr rest 1)) (rR wr rest 1) 4)) : Nat) : Int)), (34, .bool true)] (by kernel_rfl) rfl ?_
          refine GL.k rfl hK114 (fun _ _ h => h) ?_
          refine G.yes rfl ?_
          refine G.seqK fun K140 hK141 => ?_
          refine G.region ?_
          refine GL.run (j := 1) 1 [35] [(35, pt p 0)] (by kernel_rfl) rfl ?_
          refine GL.call (j := 2) (Fail_calls (ids [.blk p [.slice A104 ((rR (!(rOK wr rest 1)) (rR wr rest 1) 4).length) c105, .bool (!(rOK (!(rOK wr rest 1)) (rR wr rest 1) 4))] 74, .row R N C 5 1 (by8 whole)]) p A104 ((rR (!(rOK wr rest 1)) (rR wr rest 1) 4).length) c105 (!(rOK (!(rOK wr rest 1)) (rR wr rest 1) 4)) R N C whole w126 (Hp.startL (A := [.blk p [.slice A104 ((rR (!(rOK wr rest 1)) (rR wr rest 1) 4).length) c105, .bool (!(rOK (!(rOK wr rest 1)) (rR wr rest 1) 4))] 74, .row R N C 5 1 (by8 whole)]) (B := []) H127)) (by kernel_rfl) rfl (fun e_ w142 hR => ?_)
          obtain ⟨rfl, H144⟩ := hR
          have H143 : Hp w S [.blk p [.slice none 0 0, .bool true] 74, .row R N C 5 1 (by8 whole)] w142 := Hp.callL (A := [.blk p [.slice A104 ((rR (!(rOK wr rest 1)) (rR wr rest 1) 4).length) c105, .bool (!(rOK (!(rOK wr rest 1)) (rR wr rest 1) 4))] 74, .row R N C 5 1 (by8 whole)]) (B := []) H127 H144
          refine ⟨_, rfl, [], [], by kernel_rfl, ?_⟩
          refine GL.k rfl hK141 (fun _ _ h => h) ?_
          refine G.seqK fun K145 hK146 => ?_
          refine G.region ?_
          refine GL.run (j := 1) 1 [4] [(4, .int .u64 0)] (by kernel_rfl) rfl ?_
          refine GL.k rfl hK146 (fun _ _ h => h) ?_
          refine G.ret ?_
          intro F_ hF_ hM_
          refine hRet _ _ (bodyPost_1 rfl (RV.tmp rfl) ?_ F_ hF_ hM_)
          have hn : ctN wr rest = 4 := by unfold ctN; (repeat' split) <;> omega
          obtain ⟨eX, eW, eT⟩ := ct_long hn (by decide)
          obtain ⟨o1, o2, o3⟩ := ct_bad (wr := wr) (rest := rest) (most := most) (.inr (.inl (by rw [eX, hn]; omega)))
          rw [o1, o2, o3]
          exact ⟨none, 0, rfl, H143, Cut.nil _ _ _, Nat.le_refl _⟩
  · skip
    have hb18f := eq_of_beq hb18
    refine G.yes rfl ?_
    refine G.region ?_
    refine GL.run (j := 1) 1 [0, 1, 12] [(0, pt p 0), (1, .int .u64 (most : Int)), (12, pt p 0)] (by kernel_rfl) rfl ?_
    refine GL.call (j := 2) (Get2_calls (ids [.blk p [.slice A5 ((rR wr rest 1).length) c6, .bool (!(rOK wr rest 1))] 74, .row R N C 5 1 (by8 whole)]) p A5 ((rR wr rest 1).length) c6 (!(rOK wr rest 1)) R N C whole (rR wr rest 1) w9 (Hp.startL (A := [.blk p [.slice A5 ((rR wr rest 1).length) c6, .bool (!(rOK wr rest 1))] 74, .row R N C 5 1 (by8 whole)]) (B := []) H10) hC7 (rfl) (hL8) ((Nat.le_trans (rR_le _ _ _) (hk ▸ hN)))) (by kernel_rfl) rfl (fun e_ w151 hR => ?_)
    obtain ⟨A147, c148, rfl, H153, hC149, hL150⟩ := hR
    have H152 : Hp w S [.blk p [.slice A147 ((rR (!(rOK wr rest 1)) (rR wr rest 1) 2).length) c148, .bool (!(rOK (!(rOK wr rest 1)) (rR wr rest 1) 2))] 74, .row R N C 5 1 (by8 whole)] w151 := Hp.callL (A := [.blk p [.slice A5 ((rR wr rest 1).length) c6, .bool (!(rOK wr rest 1))] 74, .row R N C 5 1 (by8 whole)]) (B := []) H10 H153
    refine ⟨_, rfl, [0, 1, 13], [(0, pt p 0), (1, .int .u64 (most : Int)), (13, .int .u64 (((getB (rV (!(rOK wr rest 1)) (rR wr rest 1) 2)) : Nat) : Int))], by kernel_rfl, ?_⟩
    refine GL.run (j := 4) 2 [0, 1, 5, 6] [(0, pt p 0), (1, .int .u64 (most : Int)), (5, .int .u64 (((getB (rV (!(rOK wr rest 1)) (rR wr rest 1) 2)) : Nat) : Int)), (6, .int .i64 3)] (by kernel_rfl) rfl ?_
    refine GL.k rfl hK13 (fun _ _ h => h) ?_
    refine G.seqK fun K154 hK155 => ?_
    refine G.seqK fun K156 hK157 => ?_
    refine G.region ?_
    refine GL.run (j := 1) 1 [0, 1, 5, 6, 22] [(0, pt p 0), (1, .int .u64 (most : Int)), (5, .int .u64 (((getB (rV (!(rOK wr rest 1)) (rR wr rest 1) 2)) : Nat) : Int)), (6, .int .i64 3), (22, pt p 0)] (by kernel_rfl) rfl ?_
    refine GL.call (j := 2) (Wrong_calls (ids [.blk p [.slice A147 ((rR (!(rOK wr rest 1)) (rR wr rest 1) 2).length) c148, .bool (!(rOK (!(rOK wr rest 1)) (rR wr rest 1) 2))] 74, .row R N C 5 1 (by8 whole)]) p A147 ((rR (!(rOK wr rest 1)) (rR wr rest 1) 2).length) c148 (!(rOK (!(rOK wr rest 1)) (rR wr rest 1) 2)) R N C whole w151 (Hp.startL (A := [.blk p [.slice A147 ((rR (!(rOK wr rest 1)) (rR wr rest 1) 2).length) c148, .bool (!(rOK (!(rOK wr rest 1)) (rR wr rest 1) 2))] 74, .row R N C 5 1 (by8 whole)]) (B := []) H152)) (by kernel_rfl) rfl (fun e_ w158 hR => ?_)
    obtain ⟨rfl, H160⟩ := hR
    have H159 : Hp w S [.blk p [.slice A147 ((rR (!(rOK wr rest 1)) (rR wr rest 1) 2).length) c148, .bool (!(rOK (!(rOK wr rest 1)) (rR wr rest 1) 2))] 74, .row R N C 5 1 (by8 whole)] w158 := Hp.callL (A := [.blk p [.slice A147 ((rR (!(rOK wr rest 1)) (rR wr rest 1) 2).length) c148, .bool (!(rOK (!(rOK wr rest 1)) (rR wr rest 1) 2))] 74, .row R N C 5 1 (by8 whole)]) (B := []) H152 H160
    refine ⟨_, rfl, [0, 1, 5, 6, 23], [(0, pt p 0), (1, .int .u64 (most : Int)), (5, .int .u64 (((getB (rV (!(rOK wr rest 1)) (rR wr rest 1) 2)) : Nat) : Int)), (6, .int .i64 3), (23, .bool (!(rOK (!(rOK wr rest 1)) (rR wr rest 1) 2)))], by kernel_rfl, ?_⟩
    refine GL.run (j := 3) 1 [0, 1, 5, 6, 24] [(0, pt p 0), (1, .int .u64 (most : Int)), (5, .int .u64 (((getB (rV (!(rOK wr rest 1)) (rR wr rest 1) 2)) : Nat) : Int)), (6, .int .i64 3), (24, .bool (!(rOK (!(rOK wr rest 1)) (rR wr rest 1) 2)))] (by kernel_rfl) rfl ?_
    cases hb161 : (rOK (!(rOK wr rest 1)) (rR wr rest 1) 2)
    · skip
      refine GL.run (j := 13) 10 [0, 5, 34] [(0, pt p 0), (5, .int .u64 (((getB (rV (!(rOK wr rest 1)) (rR wr rest 1) 2)) : Nat) : Int)), (34, .bool true)] (by kernel_rfl) rfl ?_
      refine GL.k rfl hK157 (fun _ _ h => h) ?_
      refine G.yes rfl ?_
      refine G.seqK fun K162 hK163 => ?_
      refine G.region ?_
      refine GL.run (j := 1) 1 [35] [(35, pt p 0)] (by kernel_rfl) rfl ?_
      refine GL.call (j := 2) (Fail_calls (ids [.blk p [.slice A147 ((rR (!(rOK wr rest 1)) (rR wr rest 1) 2).length) c148, .bool (!(rOK (!(rOK wr rest 1)) (rR wr rest 1) 2))] 74, .row R N C 5 1 (by8 whole)]) p A147 ((rR (!(rOK wr rest 1)) (rR wr rest 1) 2).length) c148 (!(rOK (!(rOK wr rest 1)) (rR wr rest 1) 2)) R N C whole w158 (Hp.startL (A := [.blk p [.slice A147 ((rR (!(rOK wr rest 1)) (rR wr rest 1) 2).length) c148, .bool (!(rOK (!(rOK wr rest 1)) (rR wr rest 1) 2))] 74, .row R N C 5 1 (by8 whole)]) (B := []) H159)) (by kernel_rfl) rfl (fun e_ w164 hR => ?_)
      obtain ⟨rfl, H166⟩ := hR
      have H165 : Hp w S [.blk p [.slice none 0 0, .bool true] 74, .row R N C 5 1 (by8 whole)] w164 := Hp.callL (A := [.blk p [.slice A147 ((rR (!(rOK wr rest 1)) (rR wr rest 1) 2).length) c148, .bool (!(rOK (!(rOK wr rest 1)) (rR wr rest 1) 2))] 74, .row R N C 5 1 (by8 whole)]) (B := []) H159 H166
      refine ⟨_, rfl, [], [], by kernel_rfl, ?_⟩
      refine GL.k rfl hK163 (fun _ _ h => h) ?_
      refine G.seqK fun K167 hK168 => ?_
      refine G.region ?_
      refine GL.run (j := 1) 1 [4] [(4, .int .u64 0)] (by kernel_rfl) rfl ?_
      refine GL.k rfl hK168 (fun _ _ h => h) ?_
      refine G.ret ?_
      intro F_ hF_ hM_
      refine hRet _ _ (bodyPost_1 rfl (RV.tmp rfl) ?_ F_ hF_ hM_)
      have hn : ctN wr rest = 2 := by unfold ctN; (repeat' split) <;> omega
      obtain ⟨eX, eW, eT⟩ := ct_long hn (by decide)
      obtain ⟨o1, o2, o3⟩ := ct_bad (most := most) (.inl (by rw [eW, ‹(rOK (!(rOK wr rest 1)) (rR wr rest 1) 2) = false›]; rfl))
      rw [o1, o2, o3]
      exact ⟨none, 0, rfl, H165, Cut.nil _ _ _, Nat.le_refl _⟩
    · skip
      refine GL.run (j := 5) 2 [0, 1, 5, 24, 25, 26] [(0, pt p 0), (1, .int .u64 (most : Int)), (5, .int .u64 (((getB (rV (!(rOK wr rest 1)) (rR wr rest 1) 2)) : Nat) : Int)), (24, .bool false), (25, .int .i64 3), (26, .int .u64 (((getB (rV (!(rOK wr rest 1)) (rR wr rest 1) 2)) : Nat) : Int))] (by kernel_rfl) rfl ?_
      refine GL.call (j := 6) (CountSize_calls (getB (rV (!(rOK wr rest 1)) (rR wr rest 1) 2)) w158) (by kernel_rfl) rfl (fun e_ w169 hR => ?_)
      obtain ⟨rfl, H171⟩ := hR
      have H170 : Hp w S [.blk p [.slice A147 ((rR (!(rOK wr rest 1)) (rR wr rest 1) 2).length) c148, .bool (!(rOK (!(rOK wr rest 1)) (rR wr rest 1) 2))] 74, .row R N C 5 1 (by8 whole)] w169 := H159.callNil H171
      refine ⟨_, rfl, [0, 1, 5, 24, 25, 27], [(0, pt p 0), (1, .int .u64 (most : Int)), (5, .int .u64 (((getB (rV (!(rOK wr rest 1)) (rR wr rest 1) 2)) : Nat) : Int)), (24, .bool false), (25, .int .i64 3), (27, .int .i64 (((cntSz (getB (rV (!(rOK wr rest 1)) (rR wr rest 1) 2))) : Nat) : Int))], by kernel_rfl, ?_⟩
      refine GL.run (j := 9) 3 [0, 1, 5, 30] [(0, pt p 0), (1, .int .u64 (most : Int)), (5, .int .u64 (((getB (rV (!(rOK wr rest 1)) (rR wr rest 1) 2)) : Nat) : Int)), (30, .bool ((3 : Int) != (((cntSz (getB (rV (!(rOK wr rest 1)) (rR wr rest 1) 2))) : Nat) : Int)))] (by kernel_rfl) rfl ?_
      cases hb172 : ((3 : Int) != (((cntSz (getB (rV (!(rOK wr rest 1)) (rR wr rest 1) 2))) : Nat) : Int))
      · skip
        have hb172f : (3 : Int) = (((cntSz (getB (rV (!(rOK wr rest 1)) (rR wr rest 1) 2))) : Nat) : Int) := bne_eq_false_iff_eq.1 hb172
        refine GL.run (j := 13) 4 [0, 5, 34] [(0, pt p 0), (5, .int .u64 (((getB (rV (!(rOK wr rest 1)) (rR wr rest 1) 2)) : Nat) : Int)), (34, .bool (decide ((most : Int) < (((getB (rV (!(rOK wr rest 1)) (rR wr rest 1) 2)) : Nat) : Int))))] (by kernel_rfl) rfl ?_
        refine GL.k rfl hK157 (fun _ _ h => h) ?_
        cases hb173 : (decide ((most : Int) < (((getB (rV (!(rOK wr rest 1)) (rR wr rest 1) 2)) : Nat) : Int)))
        · skip
          have hb173f := of_decide_eq_false hb173
          refine G.no rfl ?_
          refine G.skipK hK155 (fun _ _ h => h) ?_
          refine G.seqK fun K174 hK175 => ?_
          refine G.region ?_
          refine GL.run (j := 2) 2 [4] [(4, .int .u64 (((getB (rV (!(rOK wr rest 1)) (rR wr rest 1) 2)) : Nat) : Int))] (by kernel_rfl) rfl ?_
          refine GL.k rfl hK175 (fun _ _ h => h) ?_
          refine G.ret ?_
          intro F_ hF_ hM_
          refine hRet _ _ (bodyPost_1 rfl (RV.tmp rfl) ?_ F_ hF_ hM_)
          have hn : ctN wr rest = 2 := by unfold ctN; (repeat' split) <;> omega
          obtain ⟨eX, eW, eT⟩ := ct_long hn (by decide)
          obtain ⟨o1, o2, o3⟩ := ct_ok (most := most) (by rw [eW, ‹(rOK (!(rOK wr rest 1)) (rR wr rest 1) 2) = true›]; rfl) (by rw [eX, hn]; omega) (by rw [eX]; omega)
          rw [o1, o2, o3, eX, eT]
          have HF := H170
          rw [‹(rOK (!(rOK wr rest 1)) (rR wr rest 1) 2) = true›] at HF
          exact ⟨_, _, rfl, HF, hC149, hL150⟩
        · skip
          have hb173f := of_decide_eq_true hb173
          refine G.yes rfl ?_
          refine G.seqK fun K176 hK177 => ?_
          refine G.region ?_
          refine GL.run (j := 1) 1 [35] [(35, pt p 0)] (by kernel_rfl) rfl ?_
          refine GL.call (j := 2) (Fail_calls (ids [.blk p [.slice A147 ((rR (!(rOK wr rest 1)) (rR wr rest 1) 2).length) c148, .bool (!(rOK (!(rOK wr rest 1)) (rR wr rest 1) 2))] 74, .row R N C 5 1 (by8 whole)]) p A147 ((rR (!(rOK wr rest 1)) (rR wr rest 1) 2).length) c148 (!(rOK (!(rOK wr rest 1)) (rR wr rest 1) 2)) R N C whole w169 (Hp.startL (A := [.blk p [.slice A147 ((rR (!(rOK wr rest 1)) (rR wr rest 1) 2).length) c148, .bool (!(rOK (!(rOK wr rest 1)) (rR wr rest 1) 2))] 74, .row R N C 5 1 (by8 whole)]) (B := []) H170)) (by kernel_rfl) rfl (fun e_ w178 hR => ?_)
          obtain ⟨rfl, H180⟩ := hR
          have H179 : Hp w S [.blk p [.slice none 0 0, .bool true] 74, .row R N C 5 1 (by8 whole)] w178 := Hp.callL (A := [.blk p [.slice A147 ((rR (!(rOK wr rest 1)) (rR wr rest 1) 2).length) c148, .bool (!(rOK (!(rOK wr rest 1)) (rR wr rest 1) 2))] 74, .row R N C 5 1 (by8 whole)]) (B := []) H170 H180
          refine ⟨_, rfl, [], [], by kernel_rfl, ?_⟩
          refine GL.k rfl hK177 (fun _ _ h => h) ?_
          refine G.seqK fun K181 hK182 => ?_
          refine G.region ?_
          refine GL.run (j := 1) 1 [4] [(4, .int .u64 0)] (by kernel_rfl) rfl ?_
          refine GL.k rfl hK182 (fun _ _ h => h) ?_
          refine G.ret ?_
          intro F_ hF_ hM_
          refine hRet _ _ (bodyPost_1 rfl (RV.tmp rfl) ?_ F_ hF_ hM_)
          have hn : ctN wr rest = 2 := by unfold ctN; (repeat' split) <;> omega
          obtain ⟨eX, eW, eT⟩ := ct_long hn (by decide)
          obtain ⟨o1, o2, o3⟩ := ct_bad (wr := wr) (rest := rest) (most := most) (.inr (.inr (by rw [eX]; omega)))
          rw [o1, o2, o3]
          exact ⟨none, 0, rfl, H179, Cut.nil _ _ _, Nat.le_refl _⟩
      · skip
        have hb172f : (3 : Int) ≠ (((cntSz (getB (rV (!(rOK wr rest 1)) (rR wr rest 1) 2))) : Nat) : Int) := bne_iff_ne.1 hb172
        refine GL.run (j := 13) 4 [0, 5, 34] [(0, pt p 0), (5, .int .u64 (((getB (rV (!(rOK wr rest 1)) (rR wr rest 1) 2)) : Nat) : Int)), (34, .bool true)] (by kernel_rfl) rfl ?_
        refine GL.k rfl hK157 (fun _ _ h => h) ?_
        refine G.yes rfl ?_
        refine G.seqK fun K183 hK184 => ?_
        refine G.region ?_
        refine GL.run (j := 1) 1 [35] [(35, pt p 0)] (by kernel_rfl) rfl ?_
        refine GL.call (j := 2) (Fail_calls (ids [.blk p [.slice A147 ((rR (!(rOK wr rest 1)) (rR wr rest 1) 2).length) c148, .bool (!(rOK (!(rOK wr rest 1)) (rR wr rest 1) 2))] 74, .row R N C 5 1 (by8 whole)]) p A147 ((rR (!(rOK wr rest 1)) (rR wr rest 1) 2).length) c148 (!(rOK (!(rOK wr rest 1)) (rR wr rest 1) 2)) R N C whole w169 (Hp.startL (A := [.blk p [.slice A147 ((rR (!(rOK wr rest 1)) (rR wr rest 1) 2).length) c148, .bool (!(rOK (!(rOK wr rest 1)) (rR wr rest 1) 2))] 74, .row R N C 5 1 (by8 whole)]) (B := []) H170)) (by kernel_rfl) rfl (fun e_ w185 hR => ?_)
        obtain ⟨rfl, H187⟩ := hR
        have H186 : Hp w S [.blk p [.slice none 0 0, .bool true] 74, .row R N C 5 1 (by8 whole)] w185 := Hp.callL (A := [.blk p [.slice A147 ((rR (!(rOK wr rest 1)) (rR wr rest 1) 2).length) c148, .bool (!(rOK (!(rOK wr rest 1)) (rR wr rest 1) 2))] 74, .row R N C 5 1 (by8 whole)]) (B := []) H170 H187
        refine ⟨_, rfl, [], [], by kernel_rfl, ?_⟩
        refine GL.k rfl hK184 (fun _ _ h => h) ?_
        refine G.seqK fun K188 hK189 => ?_
        refine G.region ?_
        refine GL.run (j := 1) 1 [4] [(4, .int .u64 0)] (by kernel_rfl) rfl ?_
        refine GL.k rfl hK189 (fun _ _ h => h) ?_
        refine G.ret ?_
        intro F_ hF_ hM_
        refine hRet _ _ (bodyPost_1 rfl (RV.tmp rfl) ?_ F_ hF_ hM_)
        have hn : ctN wr rest = 2 := by unfold ctN; (repeat' split) <;> omega
        obtain ⟨eX, eW, eT⟩ := ct_long hn (by decide)
        obtain ⟨o1, o2, o3⟩ := ct_bad (wr := wr) (rest := rest) (most := most) (.inr (.inl (by rw [eX, hn]; omega)))
        rw [o1, o2, o3]
        exact ⟨none, 0, rfl, H186, Cut.nil _ _ _, Nat.le_refl _⟩
theorem RCounted_calls (S : List Nat) (p : Nat) (A : Option Addr) (k cap : Nat) (wr : Bool) (R : Option Addr) (N C : Nat) (whole rest : List UInt8) (most : Nat) (w : World) (h0 : Hp w S [.blk p [.slice A k cap, .bool wr] 74, .row R N C 5 1 (by8 whole)] w) (hcut : Cut R whole A rest) (hk : k = rest.length) (hcap : k ≤ cap) (hN : k ≤ 1000000) (hmost : most ≤ 9223372036854775807) : Calls Try.prog 29 #[pt p 0, .int .i64 (most : Int)] w fun e w' => ∃ B b D d, e = .returned (.slice D (cdV wr rest most).length d) ∧ Hp w S [.blk p [.slice B (cdR wr rest most).length b, .bool (!(cdOK wr rest most))] 74, .row R N C 5 1 (by8 whole), .row D (cdV wr rest most).length d 5 1 (by8 (cdV wr rest most))] w' ∧ Cut R whole B (cdR wr rest most) ∧ (cdR wr rest most).length ≤ b := by
  refine calls_G (args := [pt p 0, .int .i64 (most : Int)]) Try.func29 rfl Try.ntmps29 rfl ?_
  intro Q0 hRet hNor hPan
  have H := h0
  have H : Hp w S [.blk p [.slice A k cap, .bool wr] 74, .row R N C 5 1 (by8 whole)] w := H
  refine G.seqK fun K1 hK2 => ?_
  refine G.region ?_
  refine GL.run (j := 1) 1 [0, 1] [(0, pt p 0), (1, .int .i64 (most : Int))] (by kernel_rfl) rfl ?_
  refine GL.k rfl hK2 (fun _ _ h => h) ?_
  refine G.seqK fun K3 hK4 => ?_
  refine G.seqK fun K5 hK6 => ?_
  refine G.region ?_
  refine GL.run (j := 2) 2 [0, 1, 7] [(0, pt p 0), (1, .int .i64 (most : Int)), (7, .bool (decide ((most : Int) < 0)))] (by kernel_rfl) rfl ?_
  refine GL.k rfl hK6 (fun _ _ h => h) ?_
  have hb7 : (decide ((most : Int) < 0)) = false := decide_eq_false (by omega)
  rw [hb7]
  refine G.no rfl ?_
  refine G.skipK hK4 (fun _ _ h => h) ?_
  refine G.seqK fun K8 hK9 => ?_
  refine G.region ?_
  refine GL.run (j := 4) 4 [0, 10, 13] [(0, pt p 0), (10, pt p 0), (13, .int .u64 (IntKind.u64.wrap (if (0 : Int) > (most : Int) then (0 : Int) else (most : Int))))] (by kernel_rfl) rfl ?_
  have e10 : (if (0 : Int) > (most : Int) then (0 : Int) else (most : Int)) = (most : Int) := by rw [if_neg (by omega)]
  have e11 : (IntKind.u64.wrap (most : Int)) = (most : Int) := in_u64 (by omega)
  refine GL.eq (M' := [(0, pt p 0), (10, pt p 0), (13, .int .u64 (most : Int))]) (by rw [e10, e11]) ?_
  clear e10 e11
  refine GL.call (j := 5) (RCount_calls (ids [.blk p [.slice A k cap, .bool wr] 74, .row R N C 5 1 (by8 whole)]) p A k cap wr R N C whole rest most w (Hp.startL (A := [.blk p [.slice A k cap, .bool wr] 74, .row R N C 5 1 (by8 whole)]) (B := []) H) hcut (hk) (hcap) (hN)) (by kernel_rfl) rfl (fun e_ w16 hR => ?_)
  obtain ⟨A12, c13, rfl, H18, hC14, hL15⟩ := hR
  have H17 : Hp w S [.blk p [.slice A12 ((ctR wr rest most).length) c13, .bool (!(ctOK wr rest most))] 74, .row R N C 5 1 (by8 whole)] w16 := Hp.callL (A := [.blk p [.slice A k cap, .bool wr] 74, .row R N C 5 1 (by8 whole)]) (B := []) H H18
  refine ⟨_, rfl, [0, 14], [(0, pt p 0), (14, .int .u64 (((ctV wr rest most) : Nat) : Int))], by kernel_rfl, ?_⟩
  refine GL.run (j := 6) 1 [0, 5] [(0, pt p 0), (5, .int .u64 (((ctV wr rest most) : Nat) : Int))] (by kernel_rfl) rfl ?_
  refine GL.k rfl hK9 (fun _ _ h => h) ?_
  refine G.seqK fun K19 hK20 => ?_
  refine G.region ?_
  refine GL.run (j := 3) 3 [15, 17] [(15, pt p 0), (17, .int .i64 (IntKind.i64.wrap (((ctV wr rest most) : Nat) : Int)))] (by kernel_rfl) rfl ?_
  have e21 : (IntKind.i64.wrap (((ctV wr rest most) : Nat) : Int)) = (((ctV wr rest most) : Nat) : Int) := in_i64 (by have := ctV_le wr rest most; omega)
  refine GL.eq (M' := [(15, pt p 0), (17, .int .i64 (((ctV wr rest most) : Nat) : Int))]) (by rw [e21]) ?_
  clear e21
  refine GL.call (j := 4) (Raw_calls (ids [.blk p [.slice A12 ((ctR wr rest most).length) c13, .bool (!(ctOK wr rest most))] 74, .row R N C 5 1 (by8 whole)]) p A12 ((ctR wr rest most).length) c13 (!(ctOK wr rest most)) R N C whole (ctR wr rest most) (ctV wr rest most) w16 (Hp.startL (A := [.blk p [.slice A12 ((ctR wr rest most).length) c13, .bool (!(ctOK wr rest most))] 74, .row R N C 5 1 (by8 whole)]) (B := []) H17) hC14 (rfl) (hL15) ((Nat.le_trans (ctR_le _ _ _) (hk ▸ hN)))) (by kernel_rfl) rfl (fun e_ w28 hR => ?_)
  obtain ⟨A22, c23, A24, c25, rfl, H30, hC26, hL27⟩ := hR
  have H29 : Hp w S [.blk p [.slice A22 ((rR (!(ctOK wr rest most)) (ctR wr rest most) (ctV wr rest most)).length) c23, .bool (!(rOK (!(ctOK wr rest most)) (ctR wr rest most) (ctV wr rest most)))] 74, .row R N C 5 1 (by8 whole), .row A24 ((rV (!(ctOK wr rest most)) (ctR wr rest most) (ctV wr rest most)).length) c25 5 1 (by8 (rV (!(ctOK wr rest most)) (ctR wr rest most) (ctV wr rest most)))] w28 := Hp.callL (A := [.blk p [.slice A12 ((ctR wr rest most).length) c13, .bool (!(ctOK wr rest most))] 74, .row R N C 5 1 (by8 whole)]) (B := []) H17 H30
  refine ⟨_, rfl, [18], [(18, .slice A24 ((rV (!(ctOK wr rest most)) (ctR wr rest most) (ctV wr rest most)).length) c25)], by kernel_rfl, ?_⟩
  refine GL.run (j := 5) 1 [4] [(4, .slice A24 ((rV (!(ctOK wr rest most)) (ctR wr rest most) (ctV wr rest most)).length) c25)] (by kernel_rfl) rfl ?_
  refine GL.k rfl hK20 (fun _ _ h => h) ?_
  refine G.ret ?_
  intro F_ hF_ hM_
  refine hRet _ _ (bodyPost_1 rfl (RV.tmp rfl) ?_ F_ hF_ hM_)
  exact ⟨_, _, _, _, rfl, H29, hC26, hL27⟩
end Go.Proofs.Ytkfhcogdpmndkaa
