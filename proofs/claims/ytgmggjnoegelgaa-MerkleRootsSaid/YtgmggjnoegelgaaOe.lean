/- Ranges over strings of plain signs; structs held against each other, to any depth; bits of masks; commands as arguments. Plain laws. -/
import Derived.Test.YtgmggjnoegelgaaOd
import Derived.Test.YtgmggjnoegelgaaRa
import Derived.Test.YtgmggjnoegelgaaOb
import Derived.DeepKeys
namespace Go.Proofs.Ytgmggjnoegelgaa
open Go.RowKit

section
variable {P : Program} {w0 w w' : World} {S : List Nat} {L A' B' : List Ent}
theorem RdO.blk (H : Hp w0 S (A' ++ B') w) (i : Nat) {b o : Nat} {cs : List Value} {t : TypeId} (n : Nat) {xs : List Value} (hL : B'[i]? = some (.blk b cs t)) (hx : (cs.drop o).take n = xs) : RdO w (ids A') (some ⟨b, o, none⟩) xs := by
  have hb : Blk w b cs t := H.ents _ (List.mem_append_right _ (List.mem_of_getElem? hL))
  have hnd := H.nd
  rw [ids_append] at hnd
  obtain ⟨_, _, n3⟩ := List.nodup_append.1 hnd
  intro W hs hk
  have hb' : Blk W b cs t := hb.same (hk b hb.lt (fun hin => n3 _ hin _ (ids_mem (List.mem_of_getElem? hL) (by simp [Ent.ids])) rfl))
  exact RdS.blk hb' o n hx
/-! ### ranges over a string -/
theorem Hp.strRange (H : Hp w0 S L w) {t : TypeId} (ht : isStr P t = true) (s : ByteArray) :
    ∃ k w', (Instr.range t (.string s)).run P w = .ok (.pointer (some ⟨k, 0, none⟩)) w' ∧ Hp w0 S (L ++ [.obj k (.stringIter s 0)]) w' := by
  refine ⟨w.heap.size, w.alloc (.stringIter s 0), ?_, H.callNew ⟨rfl, rfl, rfl, by simp, fun k hk _ => heap_alloc_old w _ hk, ?_, ?_, by simp [ids, Ent.ids]⟩⟩
  · simp [Instr.range, run_underlying (isStr_spec ht)]
  · intro x hx
    simp at hx
    subst hx
    exact heap_alloc_new w _
  · intro k hk
    simp [ids, Ent.ids] at hk
    omega
theorem decode_plain {bs : List UInt8} {pos : Nat} {b : UInt8} (hb : bs[pos]? = some b) (h8 : b.toNat < 128) : Utf8.decode (strOf bs) pos = (b.toNat, 1) := by
  have hlt := (List.getElem?_eq_some_iff.1 hb).1
  have e : (strOf bs).get! (pos + 0) = b := by
    rw [Nat.add_zero]
    show (strOf bs).data[pos]! = b
    have : (strOf bs).data = bs.toArray := rfl
    rw [this]
    simp [hb]
  unfold Utf8.decode
  simp only [e]
  rw [if_pos h8]
theorem Hp.strNext (H : Hp w0 S L w) (i : Nat) {k pos : Nat} {bs : List UInt8} {b : UInt8} (hL : L[i]? = some (.obj k (.stringIter (strOf bs) pos))) (hb : bs[pos]? = some b) (h8 : b.toNat < 128) (ty : TypeId) :
    ∃ w', (Instr.next (.pointer (some ⟨k, 0, none⟩)) true ty).run P w = .ok (.tuple #[.bool true, .int .i64 (pos : Int), .int .i32 (b.toNat : Int)]) w' ∧ Hp w0 S (L.set i (.obj k (.stringIter (strOf bs) (pos + 1)))) w' := by
  have ho := H.objAt i hL
  have hlt := (List.getElem?_eq_some_iff.1 hb).1
  refine ⟨w.putObj k (.stringIter (strOf bs) (pos + 1)), ?_, H.putObj i _ hL⟩
  have hsz : (strOf bs).size = bs.length := by simp [strOf, ByteArray.size]
  simp [Instr.next, getObj, setObj, Sem.run, ho, hsz, hlt, decode_plain hb h8, World.putObj, goInt]
theorem Hp.strOver (H : Hp w0 S L w) (i : Nat) {k : Nat} {bs : List UInt8} (hL : L[i]? = some (.obj k (.stringIter (strOf bs) bs.length))) (ty : TypeId) :
    (Instr.next (.pointer (some ⟨k, 0, none⟩)) true ty).run P w = .ok (.tuple #[.bool false]) w := by
  have ho := H.objAt i hL
  have hsz : (strOf bs).size = bs.length := by simp [strOf, ByteArray.size]
  simp [Instr.next, getObj, Sem.run, ho, hsz]
/-! ### structs held against each other -/
/-- A struct of bools, whole numbers, strings, arrays and structs of such, to depth m. -/
def deepEq (P : Program) (m : Nat) (t : TypeId) : Bool := P.keyTypeAt m t && !(P.eqGuardType P.depth t)
theorem run_deep_eql {m t : Nat} {x y : Operand} (ht : deepEq P m t = true) (hm : m ≤ 10000) {cs ds : List Value} {lc ld : List Lit} (hf : Value.formed P t (.agg cs.toArray) = true) (hg : Value.formed P t (.agg ds.toArray) = true)
    (hc : P.keyLits m t cs = some lc) (hd : P.keyLits m t ds = some ld) (w : World) :
    ∃ r : Bool, (do eqGuard .eql t x y (.agg cs.toArray) (.agg ds.toArray); binOp .eql t (.agg cs.toArray) (.agg ds.toArray) : Sem Value).run P w = .ok (.bool r) w ∧ (r = true ↔ lc = ld) := by
  simp only [deepEq, Bool.and_eq_true, Bool.not_eq_true'] at ht
  obtain ⟨r, h1, h2⟩ := run_equalIn_deep (P := P) (10000 - m) m t ht.1 w m m (.agg cs.toArray) (.agg ds.toArray) lc ld hf hg (by simpa [Value.cells] using hc) (by simpa [Value.cells] using hd)
  refine ⟨r, ?_, h2⟩
  rw [show 10000 - m + m = 10000 by omega] at h1
  simp only [Sem.run_bind, run_eqGuard_agg w .eql t x y _ _ ht.2, Result.andThen_ok, run_eql_struct, h1]
end
/-! ### masks of seven bits -/
theorem i_or {a k : Nat} (hk : k < 7) (ha : a < 2 ^ k) : Go.bits .or .i64 (a : Int) ((2 ^ k : Nat) : Int) = ((a + 2 ^ k : Nat) : Int) := by
  have h : ∀ k : Fin 7, ∀ a : Fin 64, a.val < 2 ^ k.val → Go.bits .or .i64 ((a.val : Nat) : Int) ((2 ^ k.val : Nat) : Int) = ((a.val + 2 ^ k.val : Nat) : Int) := by decide +kernel
  exact h ⟨k, hk⟩ ⟨a, Nat.lt_of_lt_of_le ha (Nat.le_trans (Nat.pow_le_pow_right (by decide) (show k ≤ 6 by omega)) (by decide))⟩ ha
theorem i_andbit {a k : Nat} (hk : k < 7) (ha : a < 128) : Go.bits .and .i64 (a : Int) ((2 ^ k : Nat) : Int) = ((a / 2 ^ k % 2 * 2 ^ k : Nat) : Int) := by
  have h : ∀ k : Fin 7, ∀ a : Fin 128, Go.bits .and .i64 ((a.val : Nat) : Int) ((2 ^ k.val : Nat) : Int) = ((a.val / 2 ^ k.val % 2 * 2 ^ k.val : Nat) : Int) := by decide +kernel
  exact h ⟨k, hk⟩ ⟨a, ha⟩
theorem i_and1 {a : Nat} (ha : a < 128) : Go.bits .and .i64 (a : Int) 1 = ((a % 2 : Nat) : Int) := by
  have h : ∀ a : Fin 128, Go.bits .and .i64 ((a.val : Nat) : Int) 1 = ((a.val % 2 : Nat) : Int) := by decide +kernel
  exact h ⟨a, ha⟩
/-- The bits of a that b lacks. -/
def lacks (a b : Nat) : Nat := (Go.bits .andNot .i64 (a : Int) (b : Int)).toNat
theorem i_andnot {a b : Nat} (ha : a < 128) (hb : b < 128) : Go.bits .andNot .i64 (a : Int) (b : Int) = ((lacks a b : Nat) : Int) := by
  have h : ∀ a : Fin 128, ∀ b : Fin 128, 0 ≤ Go.bits .andNot .i64 ((a.val : Nat) : Int) ((b.val : Nat) : Int) := by decide +kernel
  have := h ⟨a, ha⟩ ⟨b, hb⟩
  unfold lacks
  simp only at this
  omega
theorem lacks_zero {a b : Nat} (ha : a < 128) (hb : b < 128) : lacks a b = 0 ↔ ∀ k, k < 7 → a / 2 ^ k % 2 = 1 → b / 2 ^ k % 2 = 1 := by
  have h : ∀ a : Fin 128, ∀ b : Fin 128, (lacks a.val b.val = 0) = decide (∀ k : Fin 7, a.val / 2 ^ k.val % 2 = 1 → b.val / 2 ^ k.val % 2 = 1) := by decide +kernel
  have h2 := h ⟨a, ha⟩ ⟨b, hb⟩
  simp only at h2
  rw [h2, decide_eq_true_eq]
  exact ⟨fun h k hk => h ⟨k, hk⟩, fun h k => h k.val k.isLt⟩
/-! ### what structs are held against each other by -/
theorem u8wf (b : UInt8) : (Lit.int .u8 (b.toNat : Int)).wf = true := by
  have := b.toNat_lt
  simp [Lit.wf, IntKind.min, IntKind.max, IntKind.signed, IntKind.bits]
  omega
theorem u64wf {n : Nat} (h : n < 18446744073709551616) : (Lit.int .u64 (n : Int)).wf = true := by
  simp [Lit.wf, IntKind.min, IntKind.max, IntKind.signed, IntKind.bits]
  omega
theorem lits_u8 {P : Program} {d t : Nat} (ht : P.underlying t = some (.int .u8)) (b : UInt8) : P.keyLits (d + 1) t [.int .u8 (b.toNat : Int)] = some [.int .u8 (b.toNat : Int)] := by
  simp [Program.keyLits, ht, u8wf b]
theorem lits_u64 {P : Program} {d t n : Nat} (ht : P.underlying t = some (.int .u64)) (h : n < 18446744073709551616) : P.keyLits (d + 1) t [.int .u64 (n : Int)] = some [.int .u64 (n : Int)] := by
  simp [Program.keyLits, ht, u64wf h]
theorem lits_bool {P : Program} {d t : Nat} (ht : P.underlying t = some .bool) (b : Bool) : P.keyLits (d + 1) t [.bool b] = some [.bool b] := by
  simp [Program.keyLits, ht]
theorem lits_str {P : Program} {d t : Nat} (ht : P.underlying t = some .string) {s : ByteArray} (h : s.size ≤ maxLen) : P.keyLits (d + 1) t [.string s] = some [.string s.data.toList] := by
  simp [Program.keyLits, ht, h]
theorem mapM_some {α β : Type} (f : α → Option β) (g : α → β) : ∀ (l : List α), (∀ x ∈ l, f x = some (g x)) → l.mapM f = some (l.map g)
  | [], _ => rfl
  | x :: r, h => by
    rw [List.mapM_cons, h x (by simp), mapM_some f g r (fun y hy => h y (by simp [hy]))]
    rfl
theorem flat_one {α β : Type} (f : α → β) (l : List α) : (l.map fun x => [f x]).flatten = l.map f := by
  induction l with
  | nil => rfl
  | cons x r ih => simp [ih]
theorem keyLits_arr {P : Program} {d t n e : Nat} {cs : List Value} (ht : P.underlying t = some (.array n e)) : P.keyLits (d + 1) t cs = if cs.length = P.cellsOf t then ((List.range n).mapM fun i => P.keyLits d e ((cs.drop (i * P.cellsOf e)).take (P.cellsOf e))).map List.flatten else none := by
  conv => lhs; unfold Program.keyLits
  simp only [ht]
theorem keyLits_struct {P : Program} {d t : Nat} {fs : Array Field} {cs : List Value} (ht : P.underlying t = some (.struct fs)) : P.keyLits (d + 1) t cs = if cs.length = P.cellsOf t ∧ fs.all (·.name != "_") = true then (fs.toList.mapM fun f => P.keyLits d f.type ((cs.drop f.offset).take (P.cellsOf f.type))).map List.flatten else none := by
  conv => lhs; unfold Program.keyLits
  simp only [ht]
theorem lits_u8s {P : Program} {d t e n : Nat} (ht : P.underlying t = some (.array n e)) (he : P.underlying e = some (.int .u8)) (hc : P.cellsOf e = 1) (hn : P.cellsOf t = n) (ad : Nat → UInt8) :
    P.keyLits (d + 2) t ((List.range n).map fun i => .int .u8 ((ad i).toNat : Int)) = some ((List.range n).map fun i => Lit.int .u8 ((ad i).toNat : Int)) := by
  rw [keyLits_arr ht, if_pos (by simp [hn]), mapM_some _ (fun i => [Lit.int .u8 ((ad i).toNat : Int)])]
  · rw [Option.map_some, flat_one]
  · intro i hi
    have hi' : i < n := by simpa using hi
    rw [hc, Nat.mul_one]
    have : (((List.range n).map fun i => Value.int .u8 ((ad i).toNat : Int)).drop i).take 1 = [.int .u8 ((ad i).toNat : Int)] := by
      rw [List.drop_eq_getElem_cons (by simpa using hi')]
      simp
    rw [this]
    exact lits_u8 he _
/-- A command as an argument: its cells. -/
theorem open_cmd {cs : List Value} (hl : cs.length = 27) {o w t : UInt8} {am id : Nat} {ad : Nat → UInt8} {ag : Bool} {B : Value} (h0 : cs[0]? = some (.int .u8 (o.toNat : Int))) (h1 : cs[1]? = some (.int .u8 (w.toNat : Int))) (h2 : cs[2]? = some (.int .u8 (t.toNat : Int)))
    (h3 : cs[3]? = some (.int .u64 (am : Int))) (h4 : cs[4]? = some (.int .u64 (id : Int))) (h5 : ∀ i, i < 20 → cs[5 + i]? = some (.int .u8 ((ad i).toNat : Int))) (h6 : cs[25]? = some (.bool ag)) (h7 : cs[26]? = some B) :
    cs = [.int .u8 (o.toNat : Int), .int .u8 (w.toNat : Int), .int .u8 (t.toNat : Int), .int .u64 (am : Int), .int .u64 (id : Int), .int .u8 ((ad 0).toNat : Int), .int .u8 ((ad 1).toNat : Int), .int .u8 ((ad 2).toNat : Int), .int .u8 ((ad 3).toNat : Int), .int .u8 ((ad 4).toNat : Int), .int .u8 ((ad 5).toNat : Int), .int .u8 ((ad 6).toNat : Int), .int .u8 ((ad 7).toNat : Int), .int .u8 ((ad 8).toNat : Int), .int .u8 ((ad 9).toNat : Int), .int .u8 ((ad 10).toNat : Int), .int .u8 ((ad 11).toNat : Int), .int .u8 ((ad 12).toNat : Int), .int .u8 ((ad 13).toNat : Int), .int .u8 ((ad 14).toNat : Int), .int .u8 ((ad 15).toNat : Int), .int .u8 ((ad 16).toNat : Int), .int .u8 ((ad 17).toNat : Int), .int .u8 ((ad 18).toNat : Int), .int .u8 ((ad 19).toNat : Int), .bool ag, B] := by
  refine List.ext_getElem? fun i => ?_
  match i with
  | 0 => exact h0
  | 1 => exact h1
  | 2 => exact h2
  | 3 => exact h3
  | 4 => exact h4
  | 5 => exact h5 0 (by decide)
  | 6 => exact h5 1 (by decide)
  | 7 => exact h5 2 (by decide)
  | 8 => exact h5 3 (by decide)
  | 9 => exact h5 4 (by decide)
  | 10 => exact h5 5 (by decide)
  | 11 => exact h5 6 (by decide)
  | 12 => exact h5 7 (by decide)
  | 13 => exact h5 8 (by decide)
  | 14 => exact h5 9 (by decide)
  | 15 => exact h5 10 (by decide)
  | 16 => exact h5 11 (by decide)
  | 17 => exact h5 12 (by decide)
  | 18 => exact h5 13 (by decide)
  | 19 => exact h5 14 (by decide)
  | 20 => exact h5 15 (by decide)
  | 21 => exact h5 16 (by decide)
  | 22 => exact h5 17 (by decide)
  | 23 => exact h5 18 (by decide)
  | 24 => exact h5 19 (by decide)
  | 25 => exact h6
  | 26 => exact h7
  | n + 27 => rw [List.getElem?_eq_none (by omega), List.getElem?_eq_none (by simp)]
theorem u8s_fun {cs : List Value} (o n : Nat) (h : ∀ i, i < n → ∃ b : UInt8, cs[o + i]? = some (.int .u8 (b.toNat : Int))) : ∃ f : Nat → UInt8, ∀ i, i < n → cs[o + i]? = some (.int .u8 ((f i).toNat : Int)) :=
  ⟨fun i => if hi : i < n then (h i hi).choose else 0, fun i hi => by simp only [dif_pos hi]; exact (h i hi).choose_spec⟩
end Go.Proofs.Ytgmggjnoegelgaa
