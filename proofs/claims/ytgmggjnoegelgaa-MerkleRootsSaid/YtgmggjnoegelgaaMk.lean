/- Slices of hashes; rows of hashes, one above the other. Plain laws. -/
import Derived.Test.YtgmggjnoegelgaaSt
import Derived.Test.YtgmggjnoegelgaaNd
import Derived.Test.YtgmggjnoegelgaaOc
import Derived.Test.YtgmggjnoegelgaaSa
import Derived.Scope
namespace Go.Proofs.Ytgmggjnoegelgaa
open Go.RowKit
/-! ### hashes in a row -/
def ok32 (l : List (List UInt8)) : Prop := ∀ x ∈ l, x.length = 32
def flat8 (l : List (List UInt8)) : List UInt8 := l.flatten
theorem ok32_nil : ok32 [] := fun x h => by simp at h
theorem ok32_snoc {l : List (List UInt8)} {x : List UInt8} (h : ok32 l) (hx : x.length = 32) : ok32 (l ++ [x]) := fun y hy => by
  rcases List.mem_append.1 hy with hy | hy
  · exact h y hy
  · rw [List.mem_singleton.1 hy, hx]
theorem ok32_cons {l : List (List UInt8)} {x : List UInt8} : ok32 (x :: l) ↔ x.length = 32 ∧ ok32 l := by
  constructor
  · intro h
    exact ⟨h x (by simp), fun y hy => h y (by simp [hy])⟩
  · rintro ⟨hx, h⟩ y hy
    rcases List.mem_cons.1 hy with rfl | hy
    · exact hx
    · exact h y hy
theorem flat8_length : ∀ {l : List (List UInt8)}, ok32 l → (flat8 l).length = l.length * 32
  | [], _ => rfl
  | x :: l, h => by
    obtain ⟨hx, h⟩ := ok32_cons.1 h
    show (x ++ flat8 l).length = _
    rw [List.length_append, hx, flat8_length h, List.length_cons]
    omega
theorem flat8_snoc (l : List (List UInt8)) (x : List UInt8) : flat8 (l ++ [x]) = flat8 l ++ x := by simp [flat8]
theorem flat8_drop : ∀ {l : List (List UInt8)}, ok32 l → ∀ j, (flat8 l).drop (j * 32) = flat8 (l.drop j)
  | [], _, j => by simp [flat8]
  | x :: l, h, 0 => by simp
  | x :: l, h, j + 1 => by
    obtain ⟨hx, h⟩ := ok32_cons.1 h
    show (x ++ flat8 l).drop _ = _
    rw [show (j + 1) * 32 = x.length + j * 32 by omega, List.drop_length_add_append, flat8_drop h j]
    rfl
theorem flat8_take : ∀ {l : List (List UInt8)}, ok32 l → ∀ j, (flat8 l).take (j * 32) = flat8 (l.take j)
  | [], _, j => by simp [flat8]
  | x :: l, h, 0 => by simp [flat8]
  | x :: l, h, j + 1 => by
    obtain ⟨hx, h⟩ := ok32_cons.1 h
    show (x ++ flat8 l).take _ = _
    rw [show (j + 1) * 32 = x.length + j * 32 by omega, List.take_length_add_append, flat8_take h j]
    rfl
theorem getDH {l : List (List UInt8)} {j : Nat} (h : j < l.length) : l[j]? = some (l.getD j []) := by rw [List.getD_eq_getElem?_getD, List.getElem?_eq_getElem h]; rfl
theorem ok32_at {l : List (List UInt8)} (h : ok32 l) {j : Nat} (hj : j < l.length) : (l.getD j []).length = 32 := h _ (List.mem_of_getElem? (getDH hj))
theorem flat8_sub {l : List (List UInt8)} (h : ok32 l) {j : Nat} (hj : j < l.length) : ((by8 (flat8 l)).drop (j * 32)).take 32 = by8 (l.getD j []) := by
  rw [by8_drop, flat8_drop h, by8_take, show (32 : Nat) = 1 * 32 from rfl, flat8_take (fun x hx => h x (List.mem_of_mem_drop hx))]
  congr 1
  have hd : l.drop j = l.getD j [] :: l.drop (j + 1) := by
    rw [List.drop_eq_getElem_cons hj, List.getD_eq_getElem?_getD, List.getElem?_eq_getElem hj]
    rfl
  rw [hd]
  simp [flat8]
theorem flat_pieces (f : Nat → List UInt8) (hf : ∀ i, (f i).length = 32) : ∀ (n : Nat) (xs : List Value), xs.length = n * 32 → (∀ i, i < n → (xs.drop (i * 32)).take 32 = by8 (f i)) → xs = by8 (flat8 ((List.range n).map f))
  | 0, xs, hl, _ => by
    rw [Nat.zero_mul] at hl
    rw [List.eq_nil_of_length_eq_zero hl]
    rfl
  | n + 1, xs, hl, h => by
    have ih := flat_pieces f hf n (xs.take (n * 32)) (by rw [List.length_take, hl]; omega) (fun i hi => by
      rw [← h i (by omega), List.drop_take, List.take_take, Nat.min_eq_left (by omega)])
    have e := h n (by omega)
    rw [List.take_of_length_le (by rw [List.length_drop, hl]; omega)] at e
    rw [List.range_succ, List.map_append, List.map_cons, List.map_nil, flat8_snoc, by8_append, ← ih, ← e, List.take_append_drop]
section
variable {H : Type} {enc : TypeId × Value → H} {P : Program} {w : World} {sp : Nat → Bool} {held : Bool}
theorem open_hashes {t e e8 : TypeId} {fuel : Nat} {cs : List Value} {x : DataW H × List MemPlace} (ht : P.underlying t = some (.slice e)) (hc : P.cellsOf e = 32) (hok : lvOk P 1 e = true) (hls : lv P 1 e 0 = (List.range 32).map fun i => (i, e8))
    (h8 : P.underlying e8 = some (.int .u8)) (h : DataW.trod enc P w 0 sp held fuel t cs = some x) : ∃ (A : Option Addr) (l : List (List UInt8)) (c : Nat), cs = [.slice A l.length c] ∧ RdS w A (by8 (flat8 l)) ∧ ok32 l ∧ l.length ≤ c ∧ c ≤ maxLen := by
  obtain ⟨A, n, c, xs, rfl, hr, hl, hnc, hcm, hel⟩ := open_structs 32 ht hc (by decide) h
  have hC : ∀ i, ∃ b : List UInt8, b.length = 32 ∧ (i < n → (xs.drop (i * 32)).take 32 = by8 b) := by
    intro i
    by_cases hi : i < n
    · obtain ⟨hl3, m, y, hy⟩ := hel i hi
      have hlv := open_leaves 1 (by rw [hc]; exact hl3) hok hy hls
      obtain ⟨f, hf⟩ := bytes_of 32 hl3 (fun j hj => (hlv (j, e8) (List.mem_map.2 ⟨j, List.mem_range.2 hj, rfl⟩)).u8 h8)
      refine ⟨(List.range 32).map f, by simp, fun _ => ?_⟩
      rw [hf]
      simp [by8]
    · exact ⟨List.replicate 32 0, rfl, fun hh => absurd hh hi⟩
  refine ⟨A, (List.range n).map fun i => Classical.choose (hC i), c, by simp, ?_, ?_, by simpa using hnc, hcm⟩
  · rw [← flat_pieces (fun i => Classical.choose (hC i)) (fun i => (Classical.choose_spec (hC i)).1) n xs hl (fun i hi => (Classical.choose_spec (hC i)).2 hi)]
    exact hr
  · intro b hb
    obtain ⟨i, _, rfl⟩ := List.mem_map.1 hb
    exact (Classical.choose_spec (hC i)).1
theorem RdS.chunk {A : Option Addr} {bs : List UInt8} (h : RdS w A (by8 bs)) (l n : Nat) (hl : l < bs.length) : RdS w (A.map (fun x => Addr.add x l)) (by8 ((bs.drop l).take n)) := by
  have e := h.drop8 (cap := bs.length) l (Nat.le_refl _) rfl
  rw [if_neg (by omega)] at e
  exact e.take8 n rfl
/-- 's[lo:hi:hi]', any size of elements. -/
theorem run_slice3S {t len cap sz : Nat} {A : Option Addr} {l h n : Nat} {k1 k2 k3 : IntKind} (ht : slcOf P t = some sz) (hn : h = l + n) (h0 : 0 < n) (hh : h ≤ cap) (w : World) :
    (Instr.sliceAt t (.slice A len cap) (some (.int k1 (l : Int))) (some (.int k2 (h : Int))) (some (.int k3 (h : Int)))).run P w = .ok (.slice (A.map (fun x => Addr.add x (l * sz))) n n) w := by
  obtain ⟨e, hu, hs⟩ := slcOf_spec ht
  have hb : (Instr.sliceBounds true len cap (some (.int k1 (l : Int))) (some (.int k2 (h : Int))) (some (.int k3 (h : Int)))).run P w = .ok (l, h, h) w := by
    simp [Instr.sliceBounds, Instr.sliceBound, asIntOf, hh]
    omega
  simp only [Instr.sliceAt, Sem.run_bind, run_underlying hu, Result.andThen_ok, Instr.slice, hb, hs, Sem.run_pure]
  rw [if_neg (by omega), show h - l = n by omega]
/-- 's[lo:]', any size of elements. -/
theorem run_sliceFrom {t len cap sz : Nat} {A : Option Addr} {l : Nat} {k1 : IntKind} (ht : slcOf P t = some sz) (hl : l ≤ len) (hh : len ≤ cap) (w : World) :
    (Instr.sliceAt t (.slice A len cap) (some (.int k1 (l : Int))) none none).run P w = .ok (.slice (if cap = l then A else A.map (fun x => Addr.add x (l * sz))) (len - l) (cap - l)) w := by
  obtain ⟨e, hu, hs⟩ := slcOf_spec ht
  have hb : (Instr.sliceBounds true len cap (some (.int k1 (l : Int))) none none).run P w = .ok (l, len, cap) w := by
    have g1 : (0 : Int) ≤ (l : Int) ∧ (l : Int) ≤ (len : Int) := ⟨by omega, by omega⟩
    simp [Instr.sliceBounds, Instr.sliceBound, asIntOf, hl, hh]
  simp only [Instr.sliceAt, Sem.run_bind, run_underlying hu, Result.andThen_ok, Instr.slice, hb, hs, Sem.run_pure]
end
/-! ### pairs of a row -/
theorem chunk_len {l : List (List UInt8)} (h : ok32 l) {k : Nat} (hk : 2 * k < l.length) : (by8 (((flat8 l).drop (2 * k * 32)).take (min 2 (l.length - 2 * k) * 32))).length = min 2 (l.length - 2 * k) * 32 := by
  rw [by8_length, List.length_take, List.length_drop, flat8_length h]
  omega
theorem chunk_at {l : List (List UInt8)} (h : ok32 l) {k j : Nat} (hj : j < min 2 (l.length - 2 * k)) : ((by8 (((flat8 l).drop (2 * k * 32)).take (min 2 (l.length - 2 * k) * 32))).drop (j * 32)).take 32 = by8 (l.getD (2 * k + j) []) := by
  have hd : ok32 (l.drop (2 * k)) := fun x hx => h x (List.mem_of_mem_drop hx)
  rw [flat8_drop h, flat8_take hd]
  have ht : ok32 ((l.drop (2 * k)).take (min 2 (l.length - 2 * k))) := fun x hx => hd x (List.mem_of_mem_take hx)
  rw [flat8_sub ht (by rw [List.length_take, List.length_drop]; omega)]
  congr 1
  rw [List.getD_eq_getElem?_getD, List.getD_eq_getElem?_getD, List.getElem?_take_of_lt hj, List.getElem?_drop]
theorem RdO.rowN {w0 w : World} {S : List Nat} {A' B' : List Ent} (H : Hp w0 S (A' ++ B') w) (i : Nat) {R : Option Addr} {n c e sz : Nat} {xs : List Value} (hL : B'[i]? = some (.row R n c e sz xs)) : RdO w (ids A') R xs := by
  have hr : RdS w R xs := Hp.rdRowN H (A'.length + i) (by rw [List.getElem?_append_right (by omega), Nat.add_sub_cancel_left]; exact hL)
  have hnd := H.nd
  rw [ids_append] at hnd
  obtain ⟨_, _, n3⟩ := List.nodup_append.1 hnd
  intro W hs hk
  rcases hr with h | ⟨a, hA, ha, hc⟩
  · exact .inl h
  · refine .inr ⟨a, hA, Nat.lt_of_lt_of_le ha hs, fun j v hv => ?_⟩
    have hb : (a.add j).block = a.block := add_block a j
    rw [World.cell?_of_block (w := w) (hk (a.add j).block (by rw [hb]; exact ha) (fun hin => ?_))]
    · exact hc j v hv
    · rw [hb] at hin
      exact n3 _ hin _ (ids_mem (List.mem_of_getElem? hL) (by subst hA; simp [Ent.ids])) rfl
/-! ### code with labels -/
section
variable {P : Program} {Q : Exit → Act → World → Prop} {n : Nat} {M : FM} {w : World}
theorem G.scope {c : Code} (h : G P c (Exit.noGoto Q) n M w) : G P (.scope c) Q n M w := fun F hF hM => wp_scope_straight (h F hF hM)
theorem G.labelK {l : Nat} {Q' : Exit → Act → World → Prop} {K : Act → World → Prop} {b : Code} (hK : ∀ a w, b.wp P Q' a w → K a w) (hq : ∀ a w, K a w → Q .normal a w) (h : G P b Q' n M w) : G P (.label l) Q n M w :=
  fun F hF hM => wp_label (hq _ _ (hK _ _ (h F hF hM)))
end
/-! ### rows of hashes, one above the other -/
def bothH (a b : List UInt8) : List UInt8 := sha (sha (a ++ b))
theorem bothH_length (a b : List UInt8) : (bothH a b).length = 32 := by rw [bothH, sha, outF, List.length_map, List.length_range]
def upH : List (List UInt8) → List (List UInt8)
  | [] => []
  | [a] => [bothH a a]
  | a :: b :: t => bothH a b :: upH t
theorem upH_length : ∀ l : List (List UInt8), (upH l).length = (l.length + 1) / 2
  | [] => rfl
  | [_] => by simp [upH]
  | a :: b :: t => by
    rw [upH, List.length_cons, upH_length t, List.length_cons, List.length_cons]
    omega
theorem ok32_upH : ∀ l : List (List UInt8), ok32 (upH l)
  | [] => ok32_nil
  | [a] => ok32_cons.2 ⟨bothH_length a a, ok32_nil⟩
  | a :: b :: t => ok32_cons.2 ⟨bothH_length a b, ok32_upH t⟩
theorem upH_get : ∀ (l : List (List UInt8)) (k : Nat), 2 * k < l.length → (upH l)[k]? = some (bothH (l.getD (2 * k) []) (l.getD (if 2 * k + 1 < l.length then 2 * k + 1 else 2 * k) []))
  | [], k, h => absurd h (by simp)
  | [a], k, h => by
    obtain rfl : k = 0 := by simp at h; omega
    rfl
  | a :: b :: t, 0, h => by
    rw [if_pos (by simp)]
    rfl
  | a :: b :: t, k + 1, h => by
    rw [List.length_cons, List.length_cons] at h
    have ih := upH_get t k (by omega)
    rw [upH, List.getElem?_cons_succ, ih, List.length_cons, List.length_cons]
    have e : ∀ q : Nat, (a :: b :: t).getD (q + 2) [] = t.getD q [] := fun q => rfl
    by_cases hk : 2 * k + 1 < t.length
    · rw [if_pos hk, if_pos (by omega), show 2 * (k + 1) = 2 * k + 2 by omega, show 2 * k + 2 + 1 = (2 * k + 1) + 2 by omega, e, e]
    · rw [if_neg hk, if_neg (by omega), show 2 * (k + 1) = 2 * k + 2 by omega, e]
theorem upH_next {l : List (List UInt8)} {k : Nat} (h : 2 * k < l.length) : (upH l).take (k + 1) = (upH l).take k ++ [bothH (l.getD (2 * k) []) (l.getD (if 2 * k + 1 < l.length then 2 * k + 1 else 2 * k) [])] := by
  rw [List.take_add_one, upH_get l k h]
  rfl
theorem upH_all {l : List (List UInt8)} {k : Nat} (h : (l.length + 1) / 2 ≤ k) : (upH l).take k = upH l := List.take_of_length_le (by rw [upH_length]; exact h)
/-- The root; the way of the i-th. -/
def rootF : Nat → List (List UInt8) → List UInt8
  | 0, l => l.getD 0 []
  | f + 1, l => if l.length ≤ 1 then l.getD 0 [] else rootF f (upH l)
def sib (i n : Nat) : Nat := min (if i % 2 = 1 then i - 1 else i + 1) (n - 1)
def wayF : Nat → List (List UInt8) → Nat → List (List UInt8)
  | 0, _, _ => []
  | f + 1, l, i => if l.length ≤ 1 then [] else l.getD (sib i l.length) [] :: wayF f (upH l) (i / 2)
theorem rootF_more : ∀ (f : Nat) (l : List (List UInt8)), l.length ≤ f + 1 → rootF f l = rootF (f + 1) l
  | 0, l, h => by rw [rootF, rootF, if_pos (by omega)]
  | f + 1, l, h => by
    rw [rootF, rootF]
    split
    · rfl
    · exact rootF_more f (upH l) (by rw [upH_length]; omega)
theorem wayF_more : ∀ (f : Nat) (l : List (List UInt8)) (i : Nat), l.length ≤ f + 1 → wayF f l i = wayF (f + 1) l i
  | 0, l, i, h => by rw [wayF, wayF, if_pos (by omega)]
  | f + 1, l, i, h => by
    rw [wayF, wayF]
    split
    · rfl
    · rw [wayF_more f (upH l) (i / 2) (by rw [upH_length]; omega)]
theorem rootF_stable {l : List (List UInt8)} : ∀ (d f : Nat), l.length ≤ f + 1 → rootF (f + d) l = rootF f l
  | 0, _, _ => rfl
  | d + 1, f, h => by rw [← Nat.add_assoc, ← rootF_more (f + d) l (by omega), rootF_stable d f h]
theorem wayF_stable {l : List (List UInt8)} {i : Nat} : ∀ (d f : Nat), l.length ≤ f + 1 → wayF (f + d) l i = wayF f l i
  | 0, _, _ => rfl
  | d + 1, f, h => by rw [← Nat.add_assoc, ← wayF_more (f + d) l i (by omega), wayF_stable d f h]
def rootH (l : List (List UInt8)) : List UInt8 := rootF l.length l
def wayH (l : List (List UInt8)) (i : Nat) : List (List UInt8) := wayF l.length l i
theorem rootH_one {l : List (List UInt8)} (h : l.length ≤ 1) : rootH l = l.getD 0 [] := by
  unfold rootH
  cases hf : l.length with
  | zero => rfl
  | succ f => rw [rootF, if_pos h]
theorem rootH_step {l : List (List UInt8)} (h : 1 < l.length) : rootH l = rootH (upH l) := by
  unfold rootH
  obtain ⟨f, hf⟩ : ∃ f, l.length = f + 1 := ⟨l.length - 1, by omega⟩
  rw [hf, rootF, if_neg (by omega)]
  have hu := upH_length l
  obtain ⟨d, hd⟩ : ∃ d, f = (upH l).length + d := ⟨f - (upH l).length, by omega⟩
  rw [hd]
  exact rootF_stable d _ (by omega)
theorem wayH_one {l : List (List UInt8)} {i : Nat} (h : l.length ≤ 1) : wayH l i = [] := by
  unfold wayH
  cases hf : l.length with
  | zero => rfl
  | succ f => rw [wayF, if_pos h]
theorem wayH_step {l : List (List UInt8)} {i : Nat} (h : 1 < l.length) : wayH l i = l.getD (sib i l.length) [] :: wayH (upH l) (i / 2) := by
  unfold wayH
  obtain ⟨f, hf⟩ : ∃ f, l.length = f + 1 := ⟨l.length - 1, by omega⟩
  have hu := upH_length l
  obtain ⟨d, hd⟩ : ∃ d, f = (upH l).length + d := ⟨f - (upH l).length, by omega⟩
  rw [hf, wayF, if_neg (by omega), hf, hd, wayF_stable d _ (by omega)]
/-- How many rows there are above. -/
def cntF : Nat → Nat → Nat
  | 0, _ => 0
  | f + 1, n => if n ≤ 1 then 0 else cntF f ((n + 1) / 2) + 1
theorem cntF_more : ∀ (f n : Nat), n ≤ f + 1 → cntF f n = cntF (f + 1) n
  | 0, n, h => by rw [cntF, cntF, if_pos (by omega)]
  | f + 1, n, h => by
    rw [cntF, cntF]
    split
    · rfl
    · rw [cntF_more f ((n + 1) / 2) (by omega)]
theorem cntF_stable {n : Nat} : ∀ (d f : Nat), n ≤ f + 1 → cntF (f + d) n = cntF f n
  | 0, _, _ => rfl
  | d + 1, f, h => by rw [← Nat.add_assoc, ← cntF_more (f + d) n (by omega), cntF_stable d f h]
def cntH (n : Nat) : Nat := cntF n n
theorem cntH_one {n : Nat} (h : n ≤ 1) : cntH n = 0 := by
  unfold cntH
  cases n with
  | zero => rfl
  | succ f => rw [cntF, if_pos h]
theorem cntH_step {n : Nat} (h : 1 < n) : cntH n = cntH ((n + 1) / 2) + 1 := by
  unfold cntH
  obtain ⟨f, rfl⟩ : ∃ f, n = f + 1 := ⟨n - 1, by omega⟩
  rw [cntF, if_neg (by omega)]
  obtain ⟨d, hd⟩ : ∃ d, f = (f + 1 + 1) / 2 + d := ⟨f - (f + 1 + 1) / 2, by omega⟩
  conv => lhs; rw [hd]
  rw [show (((f + 1 + 1) / 2 + d + 1 + 1) / 2) = (f + 1 + 1) / 2 by rw [← hd]]
  exact congrArg (· + 1) (cntF_stable d _ (by omega))
theorem wayH_length : ∀ (m : Nat) (l : List (List UInt8)) (i : Nat), l.length ≤ m → (wayH l i).length = cntH l.length
  | 0, l, i, h => by rw [wayH_one (by omega), cntH_one (by omega)]; rfl
  | m + 1, l, i, h => by
    by_cases h1 : l.length ≤ 1
    · rw [wayH_one h1, cntH_one h1]; rfl
    · rw [wayH_step (by omega), List.length_cons, wayH_length m (upH l) (i / 2) (by rw [upH_length]; omega), upH_length, cntH_step (n := l.length) (by omega)]
theorem ok32_wayH : ∀ (m : Nat) (l : List (List UInt8)) (i : Nat), l.length ≤ m → ok32 l → ok32 (wayH l i)
  | 0, l, i, h, _ => by rw [wayH_one (by omega)]; exact ok32_nil
  | m + 1, l, i, h, ho => by
    by_cases h1 : l.length ≤ 1
    · rw [wayH_one h1]; exact ok32_nil
    · rw [wayH_step (by omega)]
      exact ok32_cons.2 ⟨ok32_at ho (by unfold sib; omega), ok32_wayH m (upH l) (i / 2) (by rw [upH_length]; omega) (ok32_upH l)⟩
theorem rootH_length : ∀ (m : Nat) (l : List (List UInt8)), l.length ≤ m → 0 < l.length → ok32 l → (rootH l).length = 32
  | 0, l, h, h0, _ => absurd h0 (by omega)
  | m + 1, l, h, h0, ho => by
    by_cases h1 : l.length ≤ 1
    · rw [rootH_one h1]; exact ok32_at ho h0
    · rw [rootH_step (by omega)]
      exact rootH_length m (upH l) (by rw [upH_length]; omega) (by rw [upH_length]; omega) (ok32_upH l)
end Go.Proofs.Ytgmggjnoegelgaa
