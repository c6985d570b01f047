/- Slices that are read, slices that grow, bytes and strings, blocks that an operation makes. Plain laws over any program. -/
import Derived.Test.YtgmggjnoegelgaaGe
import Derived.Laws.BytesString
import Derived.Lib.ConvBytes
namespace Go.Proofs.Ytgmggjnoegelgaa
open Go.RowKit

section
variable {P : Program} {w0 w w' : World} {S : List Nat} {L : List Ent}
/-! ### a slice that is read -/
/-- The slice of address A reads as xs (one cell each). -/
def RdS (w : World) (A : Option Addr) (xs : List Value) : Prop := xs = [] ∨ ∃ a, A = some a ∧ a.block < w.heap.size ∧ ∀ j v, xs[j]? = some v → w.cell? (a.add j) = some v
theorem add_block (a : Addr) (n : Nat) : (a.add n).block = a.block := by unfold Addr.add; split <;> rfl
theorem add_add (a : Addr) (i j : Nat) : (a.add i).add j = a.add (i + j) := by
  unfold Addr.add
  by_cases hi : i = 0 <;> by_cases hj : j = 0 <;> simp [hi, hj, Nat.add_assoc]
theorem RdS.nil (w : World) (A : Option Addr) : RdS w A [] := .inl rfl
theorem RdS.below {A : Option Addr} {xs : List Value} (h : RdS w A xs) (hb : Below w.heap.size w w') : RdS w' A xs := by
  rcases h with h | ⟨a, hA, ha, hc⟩
  · exact .inl h
  · exact .inr ⟨a, hA, Nat.lt_of_lt_of_le ha hb.size, fun j v hv => by rw [hb.cell (by rw [add_block]; exact ha)]; exact hc j v hv⟩
/-- What was there when the call began is there still. -/
theorem RdS.hp {A : Option Addr} {xs : List Value} (h : RdS w0 A xs) (H : Hp w0 [] L w) : RdS w A xs := h.below H.below
theorem RdS.blk {b : Nat} {cs : List Value} {t : TypeId} (h : Blk w b cs t) (o n : Nat) {xs : List Value} (hx : (cs.drop o).take n = xs) : RdS w (some ⟨b, o, none⟩) xs := by
  refine .inr ⟨_, rfl, h.lt, fun j v hv => ?_⟩
  rw [addr_add, h.cell, ← hv, ← hx]
  have hj : j < n := by
    rw [← hx] at hv
    have := (List.getElem?_eq_some_iff.1 hv).1
    simp at this
    omega
  rw [List.getElem?_take_of_lt hj, List.getElem?_drop]
theorem RdS.row {A : Option Addr} {n c e : Nat} {xs : List Value} {b0 : Nat} (h : w.ownsRow b0 e 1 (.slice A n c) n xs) : RdS w A xs := by
  rcases h.2 with ⟨h0, hn⟩ | ⟨g, cap, cur, hv, _, hh, hnc, _, hsz, ht⟩
  · left
    have := h.1
    rw [hn] at this
    exact List.eq_nil_of_length_eq_zero (by simpa using this)
  · injection hv with hA
    subst hA
    refine .inr ⟨_, rfl, (Array.getElem?_eq_some_iff.1 hh).1, fun j v hv => ?_⟩
    rw [addr_add]
    have hj : j < n := by
      have := (List.getElem?_eq_some_iff.1 hv).1
      have := h.1
      omega
    rw [← ht, List.getElem?_take_of_lt (by omega)] at hv
    simp only [World.cell?, hh]
    simpa using hv
theorem Hp.rdRow (H : Hp w0 S L w) (i : Nat) {A : Option Addr} {n c e : Nat} {xs : List Value} (hL : L[i]? = some (.row A n c e 1 xs)) : RdS w A xs := RdS.row (H.rowAt i hL)
theorem Hp.rdBlk (H : Hp w0 S L w) (i : Nat) {b o : Nat} {cs : List Value} {t : TypeId} (n : Nat) {xs : List Value} (hL : L[i]? = some (.blk b cs t)) (hx : (cs.drop o).take n = xs) : RdS w (some ⟨b, o, none⟩) xs := RdS.blk (H.blkAt i hL) o n hx
theorem RdS.cell {A : Option Addr} {xs : List Value} (h : RdS w A xs) {j : Nat} {v : Value} (hv : xs[j]? = some v) : ∃ a, A = some a ∧ w.cell? (a.add j) = some v := by
  rcases h with h | ⟨a, hA, _, hc⟩
  · subst h
    simp at hv
  · exact ⟨a, hA, hc j v hv⟩
theorem RdS.take {A : Option Addr} {xs : List Value} (h : RdS w A xs) (n : Nat) : RdS w A (xs.take n) := by
  rcases h with h | ⟨a, hA, ha, hc⟩
  · subst h
    exact .inl (by simp)
  · refine .inr ⟨a, hA, ha, fun j v hv => hc j v ?_⟩
    have := (List.getElem?_eq_some_iff.1 hv).1
    rwa [List.getElem?_take_of_lt (by simp at this; omega)] at hv
/-- 's[k:]': at the capacity's end the address stays. -/
theorem RdS.drop {A : Option Addr} {xs : List Value} {cap : Nat} (h : RdS w A xs) (k : Nat) (hcap : xs.length ≤ cap) : RdS w (if cap = k then A else A.map (·.add k)) (xs.drop k) := by
  by_cases hk : xs.length ≤ k
  · exact .inl (List.drop_eq_nil_of_le hk)
  · rcases h with h | ⟨a, hA, ha, hc⟩
    · subst h
      simp at hk
    · rw [if_neg (by omega), hA]
      refine .inr ⟨_, rfl, by rw [add_block]; exact ha, fun j v hv => ?_⟩
      rw [add_add]
      exact hc _ _ (by rw [← hv, List.getElem?_drop])
/-- All its cells at once. -/
theorem RdS.load {A : Option Addr} {xs : List Value} (h : RdS w A xs) {a : Addr} (hA : A = some a) : (loadCells a xs.length).run P w = .ok xs.toArray w := by
  refine run_loadCells_list (P := P) w a xs (fun j v hv => ?_)
  obtain ⟨a', ha', hc⟩ := h.cell hv
  rw [hA] at ha'
  injection ha' with ha'
  subst ha'
  exact hc

/-! ### bytes, strings -/
def by8 (bs : List UInt8) : List Value := bs.map fun b => .int .u8 (b.toNat : Int)
theorem by8_length (bs : List UInt8) : (by8 bs).length = bs.length := by simp [by8]
theorem by8_append (a b : List UInt8) : by8 (a ++ b) = by8 a ++ by8 b := by simp [by8]
theorem by8_one (bs : List UInt8) : ∀ v ∈ by8 bs, v.oneCell' = true := by
  intro v hv
  simp [by8] at hv
  obtain ⟨b, _, rfl⟩ := hv
  rfl
theorem by8_get (bs : List UInt8) (j : Nat) : (by8 bs)[j]? = (bs[j]?).map fun b => .int .u8 (b.toNat : Int) := by simp [by8]
theorem by8_inj {a b : List UInt8} (h : by8 a = by8 b) : a = b := by
  refine List.map_inj_right (f := fun b : UInt8 => Value.int .u8 (b.toNat : Int)) ?_ |>.1 h
  intro x y hxy
  injection hxy with _ h
  exact UInt8.toNat_inj.1 (by omega)
def strOf (bs : List UInt8) : ByteArray := ⟨bs.toArray⟩
theorem strOf_toList (bs : List UInt8) : (strOf bs).toList = bs := by simp [strOf]
theorem strOf_size (bs : List UInt8) : (strOf bs).size = bs.length := by simp [strOf, ByteArray.size]
theorem strOf_inj {a b : List UInt8} (h : strOf a = strOf b) : a = b := by rw [← strOf_toList a, h, strOf_toList]
/-- A type of bytes; a type of strings. -/
def isBytes (P : Program) (t : TypeId) : Bool :=
  match P.underlying t with
  | some (.slice e) => match P.underlying e with
    | some (.int .u8) => true
    | _ => false
  | _ => false
def isStr (P : Program) (t : TypeId) : Bool :=
  match P.underlying t with
  | some .string => true
  | _ => false
theorem isBytes_spec {t : TypeId} (h : isBytes P t = true) : ∃ e, P.underlying t = some (.slice e) ∧ P.underlying e = some (.int .u8) := by
  unfold isBytes at h
  split at h
  · rename_i e he
    split at h
    · exact ⟨e, he, by assumption⟩
    · cases h
  · cases h
theorem isStr_spec {t : TypeId} (h : isStr P t = true) : P.underlying t = some .string := by
  unfold isStr at h
  split at h
  · assumption
  · cases h
theorem foldl_push (l : List UInt8) : ∀ s : ByteArray, (l.map fun b => (b.toNat : Int)).foldl (fun r n => r.push (UInt8.ofNat n.toNat)) s = ⟨s.data ++ l.toArray⟩ := by
  induction l with
  | nil => intro s; simp
  | cons b l ih =>
    intro s
    simp only [List.map_cons, List.foldl_cons]
    rw [ih]
    have : (s.push (UInt8.ofNat ((b.toNat : Int)).toNat)).data = s.data.push b := by
      show s.data.push _ = _
      simp
    rw [this]
    simp
theorem run_toStr {src dst : TypeId} {A : Option Addr} {bs : List UInt8} {n c : Nat} (hs : isBytes P src = true) (hd : isStr P dst = true) (h : RdS w A (by8 bs)) (hn : n = bs.length) :
    (convert src dst (.slice A n c)).run P w = .ok (.string (strOf bs)) w := by
  obtain ⟨e, h1, h2⟩ := isBytes_spec hs
  rw [run_convert_bytes_string w src dst e A n c h1 h2 (isStr_spec hd)]
  subst hn
  cases A with
  | none =>
    rcases h with h | ⟨a, hA, _⟩
    · have : bs = [] := by simpa [by8] using h
      subst this
      rfl
    · cases hA
  | some a =>
    have hl := h.load (P := P) rfl
    rw [by8_length] at hl
    rw [run_bytesToString w a bs.length c (bs.map fun b => (b.toNat : Int)) (by rw [hl]; simp [by8, Function.comp_def]), foldl_push]
    have : ByteArray.empty.data = #[] := rfl
    rw [this]
    simp [strOf]
theorem run_str_eql {t : TypeId} (a b : List UInt8) (w : World) : (binOp .eql t (.string (strOf a)) (.string (strOf b))).run P w = .ok (.bool (a == b)) w := by
  simp [binOp, Op.stringOp, strOf_toList]
theorem run_str_neq {t : TypeId} (a b : List UInt8) (w : World) : (binOp .neq t (.string (strOf a)) (.string (strOf b))).run P w = .ok (.bool (!(a == b))) w := by
  simp [binOp, Op.stringOp, strOf_toList]
theorem run_str_add {t : TypeId} (a b : List UInt8) (h : a.length + b.length ≤ 9223372036854775807) (w : World) : (binOp .add t (.string (strOf a)) (.string (strOf b))).run P w = .ok (.string (strOf (a ++ b))) w := by
  have h1 : ¬ ((((strOf a).size + (strOf b).size : Nat) : Int) > IntKind.i64.max) := by
    rw [strOf_size, strOf_size]
    simp only [IntKind.max, IntKind.bits, IntKind.signed]
    omega
  simp only [binOp, Op.stringOp, if_neg h1, Sem.run_pure]
  congr 2

/-! ### what an operation makes in one block -/
/-- What a computation comes to that makes one block and asks nothing else of the world. -/
def nev {α : Type} (P : Program) : Sem α → Option (Obj × (Nat → Option α))
  | .new o k => some (o, fun r => pev P (k r))
  | .program k => nev P (k P)
  | .mark _ k => nev P k
  | _ => none
theorem nev_run {α : Type} : ∀ {s : Sem α} {o : Obj} {f : Nat → Option α}, nev P s = some (o, f) → ∀ (w : World) (a : α), f w.heap.size = some a → s.run P w = .ok a (w.alloc o) := by
  intro s
  induction s with
  | new o k _ => intro o' f h w a ha; simp only [nev, Option.some.injEq, Prod.mk.injEq] at h; obtain ⟨rfl, rfl⟩ := h; exact pev_run ha _
  | program k ih => intro o f h w a ha; simp only [nev] at h; simp only [Sem.run]; exact ih P h w a ha
  | mark m k ih => intro o f h w a ha; simp only [nev] at h; simp only [Sem.run]; exact ih h w a ha
  | _ => intro o f h; simp [nev] at h
theorem Hp.made (H : Hp w0 S L w) (s : Sem Value) (f : Nat → Value) (cs : List Value) (t : TypeId) (hs : nev P s = some (.cells cs.toArray t, fun r => some (f r))) :
    ∃ b w', s.run P w = .ok (f b) w' ∧ Hp w0 S (L ++ [.blk b cs t]) w' :=
  ⟨w.heap.size, _, nev_run hs w _ rfl, H.new cs t⟩

/-! ### a slice that grows -/
/-- Entry i is turned into e', which may lie in a new block; all else stays. -/
theorem Hp.turnNew (H : Hp w0 S L w) (i : Nat) {e e' : Ent} (hL : L[i]? = some e) (he : ∀ k ∈ e'.ids, k ∈ e.ids ∨ w.heap.size ≤ k) (hn : e'.ids.Nodup) (h' : e'.holds w') (hos : w'.os = w.os) (htape : w'.tape = w.tape) (hout : w'.output = w.output)
    (hsz : w.heap.size ≤ w'.heap.size) (hk : ∀ k, k < w.heap.size → k ∉ e.ids → w'.heap[k]? = w.heap[k]?) : Hp w0 S (L.set i e') w' := by
  have hi : i < L.length := (List.getElem?_eq_some_iff.1 hL).1
  have hmem : ∀ k, k ∈ ids (L.set i e') → k ∈ ids L ∨ w.heap.size ≤ k := by
    intro k hk'
    obtain ⟨x, hx, hkx⟩ := List.mem_flatMap.1 hk'
    rcases List.mem_or_eq_of_mem_set hx with hx | rfl
    · exact .inl (ids_mem hx hkx)
    · rcases he k hkx with h | h
      · exact .inl (ids_mem (List.mem_of_getElem? hL) h)
      · exact .inr h
  refine ⟨hos.trans H.os, htape.trans H.tape, hout.trans H.output, Nat.le_trans H.size hsz, ?_, ?_, ?_, ?_⟩
  · intro k hk0 hS
    refine (hk k (Nat.lt_of_lt_of_le hk0 H.size) (fun hin => ?_)).trans (H.keep k hk0 hS)
    rcases H.old k (ids_mem (List.mem_of_getElem? hL) hin) with h | h
    · omega
    · exact hS h
  · intro x hx
    obtain ⟨j, hj⟩ := List.getElem?_of_mem hx
    by_cases hij : i = j
    · subst hij
      rw [List.getElem?_set_self hi] at hj
      injection hj with hj
      subst hj
      exact h'
    · rw [List.getElem?_set_ne hij] at hj
      have hxx := H.ents x (List.mem_of_getElem? hj)
      refine Ent.same hxx (fun k hkx => hk k (Ent.lt hxx k hkx) (fun hke => ?_))
      exact other_ids H.nd hL hj hij hke hkx
  · intro k hk'
    rcases hmem k hk' with h | h
    · exact H.old k h
    · exact .inl (Nat.le_trans H.size h)
  · have key : ∀ (L : List Ent) (i : Nat), L[i]? = some e → (ids L).Nodup → (∀ k ∈ ids L, k < w.heap.size) → (ids (L.set i e')).Nodup := by
      intro L
      induction L with
      | nil => intro i h; simp at h
      | cons x r ih =>
        intro i hL hnd hlt
        rw [ids_cons] at hnd
        obtain ⟨n1, n2, n3⟩ := List.nodup_append.1 hnd
        cases i with
        | zero =>
          simp at hL
          subst hL
          simp only [List.set_cons_zero, ids_cons]
          refine List.nodup_append.2 ⟨hn, n2, fun a ha b hb hab => ?_⟩
          subst hab
          rcases he a ha with h | h
          · exact n3 a h a hb rfl
          · have := hlt a (by rw [ids_cons]; exact List.mem_append_right _ hb)
            omega
        | succ i =>
          simp only [List.set_cons_succ, ids_cons]
          have hlr : ∀ k ∈ ids r, k < w.heap.size := fun k hk => hlt k (by rw [ids_cons]; exact List.mem_append_right _ hk)
          refine List.nodup_append.2 ⟨n1, ih i (by simpa using hL) n2 hlr, fun a ha b hb hab => ?_⟩
          subst hab
          obtain ⟨y, hy, hay⟩ := List.mem_flatMap.1 hb
          rcases List.mem_or_eq_of_mem_set hy with hy | rfl
          · exact n3 a ha a (ids_mem hy hay) rfl
          · rcases he a hay with h | h
            · exact n3 a ha a (ids_mem (List.mem_of_getElem? (by simpa using hL)) h) rfl
            · have := hlt a (by rw [ids_cons]; exact List.mem_append_left _ ha)
              omega
    exact key L i hL H.nd H.lt
/-- The element type's row of the table: zero value, cells, bytes. -/
def elOf (P : Program) (t : TypeId) : Option (Nat × Nat × Nat) :=
  match P.underlying t with
  | some (.slice e) => match P.info? e with
    | some i => match i.zero with
      | some z => if z.cells.size = i.size ∧ 0 < i.size then some (e, i.size, i.bytes) else none
      | none => none
    | none => none
  | _ => none
theorem elOf_spec {t e sz by_ : Nat} (h : elOf P t = some (e, sz, by_)) : ∃ i z, P.underlying t = some (.slice e) ∧ P.info? e = some i ∧ i.zero = some z ∧ i.size = sz ∧ i.bytes = by_ ∧ z.cells.size = sz ∧ 0 < sz := by
  unfold elOf at h
  split at h
  · rename_i e' he
    split at h
    · rename_i i hi
      split at h
      · rename_i z hz
        split at h
        · rename_i hc
          simp only [Option.some.injEq, Prod.mk.injEq] at h
          obtain ⟨rfl, rfl, rfl⟩ := h
          exact ⟨i, z, he, hi, hz, rfl, rfl, hc.1, hc.2⟩
        · cases h
      · cases h
    · cases h
  · cases h
theorem own_ids {A : Option Addr} {n c e sz : Nat} {xs : List Value} : (Ent.row A n c e sz xs).ids.Nodup := by cases A <;> simp [Ent.ids]
theorem row_shape {v : Value} {e sz n : Nat} {xs : List Value} (h : w.ownsRow 0 e sz v n xs) : ∃ A c, v = .slice A n c := by
  rcases h.2 with ⟨rfl, rfl⟩ | ⟨g, cap, cur, rfl, _⟩
  · exact ⟨none, 0, rfl⟩
  · exact ⟨_, cap, rfl⟩
/-- append(s, xs...): s the call's own (or nil), xs whatever is read. -/
theorem Hp.append (H : Hp w0 S L w) (i : Nat) {A B : Option Addr} {n c m d t ty e sz by_ : Nat} {xs news : List Value} (hL : L[i]? = some (.row A n c e sz xs)) (ht : elOf P t = some (e, sz, by_)) (hr : RdS w B news) (hm : news.length = m * sz)
    (h1 : ∀ u ∈ news, u.oneCell' = true) (hb : (n + m) * by_ ≤ 140737488355328) (h63 : n + m ≤ maxLen) :
    ∃ A' c' w', (Builtin.append_ #[t, t] ty #[.slice A n c, .slice B m d]).run P w = .ok (.slice A' (n + m) c') w' ∧ Hp w0 S (L.set i (.row A' (n + m) c' e sz (xs ++ news))) w' := by
  obtain ⟨inf, z, hu, hi, hz, hsz, hby, hzc, hpos⟩ := elOf_spec ht
  have hown := H.rowAt i hL
  by_cases hm0 : m = 0
  · have hnil : news = [] := List.eq_nil_of_length_eq_zero (by rw [hm, hm0, Nat.zero_mul])
    subst hnil hm0
    refine ⟨A, c, w, ?_, ?_⟩
    · have hle : n ≤ c := by
        rcases hown.2 with ⟨h0, hn⟩ | ⟨g, cap, cur, hv, _, _, hnc, _⟩
        · omega
        · injection hv with _ _ hc
          omega
      have hfc : ∀ B, (Builtin.firstCells inf.size 0 (.slice B 0 d)).run P w = .ok #[] w := by
        intro B
        cases B <;> simp [Builtin.firstCells, loadCells, loadCellsFrom]
      cases A <;> simp [Builtin.append_, run_underlying hu, sizeOf, typeInfo, hi, Builtin.lenOf, hle, hfc, storeCells]
    · have hLi : i < L.length := (List.getElem?_eq_some_iff.1 hL).1
      have : L.set i (.row A (n + 0) c e sz (xs ++ [])) = L := by
        refine List.ext_getElem? (fun k => ?_)
        by_cases hk : i = k
        · subst hk
          rw [List.getElem?_set_self hLi, hL]
          simp
        · rw [List.getElem?_set_ne hk]
      rw [this]
      exact H
  · have hne : news ≠ [] := by
      intro h0
      subst h0
      have h0 : m * sz = 0 := by rw [← hm]; rfl
      rcases Nat.mul_eq_zero.1 h0 with h | h <;> omega
    obtain ⟨a, rfl, ha, hc⟩ : ∃ a, B = some a ∧ a.block < w.heap.size ∧ ∀ j v, news[j]? = some v → w.cell? (a.add j) = some v := by
      rcases hr with h | h
      · exact absurd h hne
      · exact h
    obtain ⟨v', w', hrun, hown', hg, _, hat⟩ := run_append_own_at (P := P) w 0 t ty e inf z sz by_ hu hi hz hsz hby hzc hpos (.slice A n c) n xs hown a m d news hm (fun j u hu => hc j u hu) h1 h63 hb (Nat.zero_le _)
    obtain ⟨A', c', rfl⟩ := row_shape hown'
    refine ⟨A', c', w', hrun, H.turnNew i hL ?_ own_ids hown' hg.os hg.tape hg.output hg.size ?_⟩
    · intro k hk
      have hk' : (Value.slice A' (n + m) c').ownBlock = some k := by
        cases A' with
        | none => simp [Ent.ids] at hk
        | some a' => simp [Ent.ids] at hk; simp [Value.ownBlock, hk]
      rcases hat with hat | hat
      · rw [hat] at hk'
        left
        cases A with
        | none => simp [Value.ownBlock] at hk'
        | some a0 => simp [Value.ownBlock] at hk'; simp [Ent.ids, hk']
      · rw [hat] at hk'
        injection hk' with hk'
        right
        omega
    · intro k hk hke
      refine hg.block k hk (fun h => hke ?_)
      cases A with
      | none => simp [Value.ownBlock] at h
      | some a0 => simp [Value.ownBlock] at h; simp [Ent.ids, h]
/-- A slice that owns nothing yet. -/
theorem Hp.rowNil (H : Hp w0 S L w) (e sz : Nat) : Hp w0 S (L ++ [.row none 0 0 e sz []]) w := by
  refine ⟨H.os, H.tape, H.output, H.size, H.keep, ?_, ?_, ?_⟩
  · intro x hx
    rcases List.mem_append.1 hx with hx | hx
    · exact H.ents x hx
    · simp at hx
      subst hx
      exact World.ownsRow_nil _ _ _ _
  · intro k hk
    rw [ids_append] at hk
    rcases List.mem_append.1 hk with hk | hk
    · exact H.old k hk
    · simp [ids, Ent.ids] at hk
  · rw [ids_append]
    simpa [ids, Ent.ids] using H.nd
/-- A block of the call's own, as a slice that grows. -/
theorem Hp.blkRow {b : Nat} {cs : List Value} {t : TypeId} (H : Hp w0 S (L ++ [.blk b cs t]) w) (hfz : w.heap[b]? = some (.cells cs.toArray t (0, 0))) {n c sz : Nat} (hn : n ≤ c) (hc : c ≤ maxLen) (hsz : cs.length = c * sz) :
    Hp w0 S (L ++ [.row (some ⟨b, 0, none⟩) n c t sz (cs.take (n * sz))]) w := by
  refine ⟨H.os, H.tape, H.output, H.size, H.keep, ?_, ?_, ?_⟩
  · intro x hx
    rcases List.mem_append.1 hx with hx | hx
    · exact H.ents x (List.mem_append_left _ hx)
    · simp at hx
      subst hx
      refine ⟨?_, .inr ⟨b, c, cs.toArray, rfl, Nat.zero_le _, hfz, hn, hc, by simpa using hsz, by simp⟩⟩
      rw [List.length_take, hsz]
      exact Nat.min_eq_left (Nat.mul_le_mul_right _ hn)
  · intro k hk
    refine H.old k ?_
    rw [ids_append] at hk ⊢
    simpa [ids, Ent.ids] using hk
  · have := H.nd
    rw [ids_append] at this ⊢
    simpa [ids, Ent.ids] using this
end

section
variable {P : Program} {w0 w : World} {S : List Nat} {L : List Ent}
/-- 'append([]T(nil)[:0], make([]T, n)...)', n > 0: a new row; what is kept of it: nothing, and room for n. -/
theorem Hp.appendMake (H : Hp w0 S L w) {t ti ty e sz by_ n : Nat} (ht : elOf P t = some (e, sz, by_)) (hti : P.underlying ti = some (.int .i64)) (hn : 0 < n) (hb : n * by_ ≤ 140737488355328) (h63 : n ≤ maxLen) :
    ∃ b c w', (Builtin.append_ #[t, ti] ty #[.slice none 0 0, .int .i64 (n : Int)]).run P w = .ok (.slice (some ⟨b, 0, none⟩) n c) w' ∧ n ≤ c ∧ Hp w0 S (L ++ [.row (some ⟨b, 0, none⟩) 0 c e sz []]) w' := by
  obtain ⟨inf, z, hu, hi, hz, hsz, hby, hzc, hpos⟩ := elOf_spec ht
  subst hsz hby
  have hwn : IntKind.i64.wrap (n : Int) = (n : Int) := in_i64 (by simp only [maxLen] at h63; omega)
  have h1 : ¬ ((n : Int) < 0) := by omega
  have h2 : ¬ (281474976710656 < (n : Int) * (inf.bytes : Int)) := by
    have : ((n * inf.bytes : Nat) : Int) ≤ 140737488355328 := by omega
    rw [Int.natCast_mul] at this
    omega
  have h4 : ¬ (9223372036854775807 < (n : Int)) := by simp only [maxLen] at h63; omega
  have h5 : ¬ (281474976710656 < Builtin.nextslicecap n 0 * inf.bytes) := by
    have : Builtin.nextslicecap n 0 = n := by simp [Builtin.nextslicecap, hn]
    rw [this]
    omega
  refine ⟨w.heap.size, grownCap w n 0 e, w.drew.alloc (.cells (Builtin.zeroCells z.cells n ++ Builtin.zeroCells z.cells (grownCap w n 0 e - n)) e), ?_, grownCap_ge w n 0 e, ?_⟩
  · have hn0 : n ≠ 0 := by omega
    have hs : n * inf.size ≠ 0 := Nat.mul_ne_zero hn0 (by omega)
    simp [Builtin.append_, run_underlying hu, run_underlying hti, sizeOf, typeInfo, zeroValue, hi, hz, hwn, asInt, asIntOf, hn0, Question.forced, newRow, grownCap, Builtin.firstCells, hs]
    rw [if_neg h1, if_neg h2, if_neg h4, if_neg h5]
  · have H1 := (H.step (Below.refl _ _).drew).new (Builtin.zeroCells z.cells n ++ Builtin.zeroCells z.cells (grownCap w n 0 e - n)).toList e
    simp only [Array.toArray_toList] at H1
    have H2 := Hp.blkRow (b := w.heap.size) H1 (by rw [Array.toArray_toList]; exact heap_alloc_new w.drew _) (n := 0) (c := grownCap w n 0 e) (sz := inf.size) (Nat.zero_le _) (grownCap_le_maxLen w n 0 e h63) (by
      have := grownCap_ge w n 0 e
      simp only [Array.length_toList, Array.size_append, Builtin.zeroCells, Array.size_map, Array.size_range, hzc, ← Nat.add_mul]
      congr 1
      omega)
    simpa using H2
end

/-! ### several slices of bytes, put together -/
/-- A slice of bytes: its address, its capacity, what it holds. -/
abbrev SB := Option Addr × Nat × List UInt8
def sv (s : SB) : Value := .slice s.1 s.2.2.length s.2.1
def flat (l : List SB) : List UInt8 := l.flatMap (·.2.2)
theorem flat_take {l : List SB} {k : Nat} {s : SB} (h : l[k]? = some s) : flat (l.take (k + 1)) = flat (l.take k) ++ s.2.2 := by
  have hk := (List.getElem?_eq_some_iff.1 h).1
  rw [List.take_add_one, h]
  simp [flat]
theorem flat_le (l : List SB) (k : Nat) : (flat (l.take k)).length ≤ (flat l).length := by
  conv => rhs; rw [← List.take_append_drop k l]
  simp only [flat, List.flatMap_append, List.length_append]
  omega
theorem Hp.oldBlk {w0 w : World} {L : List Ent} (H : Hp w0 [] L w) {b : Nat} {cs : List Value} {t : TypeId} (h : Blk w0 b cs t) : Blk w b cs t := h.same (H.keep b h.lt (by simp))

/-! ### slices of slices -/
section
variable {P : Program} {w : World}
/-- 's[lo:hi]' of a slice whose elements are one cell. -/
theorem run_sliceSl {t len cap : Nat} {A : Option Addr} {lo hi : Option Value} {l h : Nat} (ht : slcOf P t = some 1) (hlo : (lo = none ∧ l = 0) ∨ ∃ k i, lo = some (.int k i) ∧ i = (l : Int)) (hhi : (hi = none ∧ h = len) ∨ ∃ k i, hi = some (.int k i) ∧ i = (h : Int))
    (hlh : l ≤ h) (hh : h ≤ cap) : (Instr.sliceAt t (.slice A len cap) lo hi none).run P w = .ok (.slice (if cap = l then A else A.map (·.add l)) (h - l) (cap - l)) w := by
  obtain ⟨e, hu, hs⟩ := slcOf_spec ht
  have hb : (Instr.sliceBounds true len cap lo hi none).run P w = .ok (l, h, cap) w := by
    have g1 : (0 : Int) ≤ (l : Int) ∧ (l : Int) ≤ (h : Int) := ⟨by omega, by omega⟩
    have g2 : (0 : Int) ≤ (h : Int) ∧ (h : Int) ≤ (cap : Int) := ⟨by omega, by omega⟩
    rcases hlo with ⟨rfl, rfl⟩ | ⟨k, i, rfl, rfl⟩ <;> rcases hhi with ⟨rfl, rfl⟩ | ⟨k', i', rfl, rfl⟩ <;> simp [Instr.sliceBounds, Instr.sliceBound, asIntOf, hlh, hh]
  simp only [Instr.sliceAt, Sem.run_bind, run_underlying hu, Result.andThen_ok, Instr.slice, hb, hs, Sem.run_pure, Nat.mul_one]
/-- 's[:hi]'. -/
theorem run_sliceSl0 {t len cap : Nat} {A : Option Addr} {lo hi : Option Value} {h : Nat} (ht : slcOf P t = some 1) (hlo : (lo = none ∧ 0 = 0) ∨ ∃ k i, lo = some (.int k i) ∧ i = ((0 : Nat) : Int)) (hhi : (hi = none ∧ h = len) ∨ ∃ k i, hi = some (.int k i) ∧ i = (h : Int))
    (hh : h ≤ cap) : (Instr.sliceAt t (.slice A len cap) lo hi none).run P w = .ok (.slice A h cap) w := by
  have e : (if cap = 0 then A else A.map (·.add 0)) = A := by
    split
    · rfl
    · cases A <;> rfl
  rw [run_sliceSl (l := 0) (h := h) ht hlo hhi (Nat.zero_le _) hh, e]
  rfl
end
end Go.Proofs.Ytgmggjnoegelgaa
