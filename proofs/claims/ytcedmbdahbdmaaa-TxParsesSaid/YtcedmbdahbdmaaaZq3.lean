/- Part 3 of what txParses_proved stands on. -/
import Derived.Test.YtcedmbdahbdmaaaZq2
set_option linter.unusedVariables false
namespace Go.Proofs.Ytcedmbdahbdmaaa
open Go.RowKit
section
variable {z z' : Bool} {q q' v : List UInt8} {n m : Nat}
theorem rq_back (hz : z' = (!(rOK z q n))) (hq : q' = rR z q n) (hv : v = rV z q n) (h : z' = false) : z = false ∧ q = v ++ q' ∧ v.length = n := by
  obtain ⟨f, hn, hd, ht⟩ := rd_back hz hq hv h
  exact ⟨f, by rw [ht, hd, List.take_append_drop], by rw [ht, List.length_take]; omega⟩
theorem rq_on (hz : z' = (!(rOK z q n))) (hq : q' = rR z q n) (hv : v = rV z q n) (h : z = false) {X T : List UInt8} (hX : q = X ++ T) (hl : X.length = n) : z' = false ∧ q' = T ∧ v = X := by
  obtain ⟨f, hd, ht⟩ := rd_on hz hq hv h (by rw [hX, List.length_append]; omega)
  exact ⟨f, by rw [hd, hX, List.drop_left' hl], by rw [ht, hX, List.take_left' hl]⟩
theorem cq_back (hz : z' = (!(cdOK z q m))) (hq : q' = cdR z q m) (hv : v = cdV z q m) (h : z' = false) : z = false ∧ q = (cnt v.length ++ v) ++ q' ∧ v.length ≤ m := by
  have hc : cdOK z q m = true := by
    cases hh : cdOK z q m
    · rw [hz, hh] at h
      cases h
    · rfl
  obtain ⟨a, b, c⟩ := cd_sound hc
  exact ⟨a, by rw [hv, hq]; exact b, by rw [hv]; exact c⟩
theorem cq_on (hz : z' = (!(cdOK z q m))) (hq : q' = cdR z q m) (hv : v = cdV z q m) (h : z = false) {b T : List UInt8} (hX : q = (cnt b.length ++ b) ++ T) (hl : b.length ≤ m) (hm : m < 18446744073709551616) : z' = false ∧ q' = T ∧ v = b := by
  subst h hX
  obtain ⟨a, b', c⟩ := cd_on (T := T) hl (by omega)
  exact ⟨by rw [hz, a]; rfl, by rw [hq, c], by rw [hv, b']⟩
theorem nq_back {x : Nat} (hz : z' = (!(ctOK z q m))) (hq : q' = ctR z q m) (hv : x = ctV z q m) (h : z' = false) : z = false ∧ q = cnt x ++ q' ∧ x ≤ m := by
  have hc : ctOK z q m = true := by
    cases hh : ctOK z q m
    · rw [hz, hh] at h
      cases h
    · rfl
  obtain ⟨a, b, c⟩ := ct_sound hc
  exact ⟨a, by rw [hv, hq]; exact b, by rw [hv]; exact c⟩
theorem nq_on {x y : Nat} (hz : z' = (!(ctOK z q m))) (hq : q' = ctR z q m) (hv : x = ctV z q m) (h : z = false) {T : List UInt8} (hX : q = cnt y ++ T) (hl : y ≤ m) (hm : m < 18446744073709551616) : z' = false ∧ q' = T ∧ x = y := by
  subst h hX
  obtain ⟨a, b', c⟩ := ct_on (T := T) hl (by omega)
  exact ⟨by rw [hz, a]; rfl, by rw [hq, c], by rw [hv, b']⟩
end
section
variable {q : List UInt8} {m : Nat}
theorem ct_wrongd : ctOK true q m = false ∧ ctV true q m = 0 ∧ ctR true q m = [] := by
  have h : ctOK true q m = false := by
    cases hh : ctOK true q m
    · rfl
    · have := (ct_sound hh).1
      cases this
  exact ⟨h, by unfold ctV; rw [h]; rfl, by unfold ctR; rw [h]; rfl⟩
theorem ct_no (h : (cnOK q && decide (cnX q ≤ m)) = false) : ctOK false q m = false ∧ ctV false q m = 0 ∧ ctR false q m = [] := by
  obtain ⟨a, b, c⟩ := ct_cn q m
  rw [h] at a b c
  exact ⟨a, b, c⟩
theorem ct_yes (h : cnOK q = true) (hm : cnX q ≤ m) : ctOK false q m = true ∧ ctV false q m = cnX q ∧ ctR false q m = q.drop (cnN q + 1) := by
  obtain ⟨a, b, c⟩ := ct_cn q m
  rw [h, decide_eq_true hm] at a b c
  exact ⟨a, b, c⟩
theorem cn_fits (h : cnOK q = true) : cnN q + 1 ≤ q.length := by
  unfold cnOK at h
  simp only [Bool.and_eq_true, decide_eq_true_eq] at h
  exact h.2.1
end
def VIn (y : TIn) : Prop := y.fr.length = 32 ∧ y.ix < 4294967296 ∧ y.sq < 4294967296 ∧ y.kb.length ≤ 520
def VOut (y : TOut) : Prop := y.pv < 18446744073709551616 ∧ y.lb.length ≤ 520
def RdIn (z : Bool) (q : List UInt8) (z' : Bool) (q' : List UInt8) (x : TIn) : Prop :=
  ∃ (z1 : Bool) (q1 v1 : List UInt8) (z2 : Bool) (q2 v2 : List UInt8) (z3 : Bool) (q3 v4 : List UInt8), z1 = (!(rOK z q 32)) ∧ q1 = rR z q 32 ∧ v1 = rV z q 32 ∧ z2 = (!(rOK z1 q1 4)) ∧ q2 = rR z1 q1 4 ∧ v2 = rV z1 q1 4 ∧
    z3 = (!(cdOK z2 q2 520)) ∧ q3 = cdR z2 q2 520 ∧ x.kb = cdV z2 q2 520 ∧ z' = (!(rOK z3 q3 4)) ∧ q' = rR z3 q3 4 ∧ v4 = rV z3 q3 4 ∧ x.fr = hsh v1 ∧ x.ix = getB v2 ∧ x.sq = getB v4
def RdOut (z : Bool) (q : List UInt8) (z' : Bool) (q' : List UInt8) (x : TOut) : Prop :=
  ∃ (z1 : Bool) (q1 v1 : List UInt8), z1 = (!(rOK z q 8)) ∧ q1 = rR z q 8 ∧ v1 = rV z q 8 ∧ z' = (!(cdOK z1 q1 520)) ∧ q' = cdR z1 q1 520 ∧ x.lb = cdV z1 q1 520 ∧ x.pv = getB v1
section
variable {z z' : Bool} {q q' T : List UInt8}
theorem put4 {l : List UInt8} {n : Nat} (h : l.length = n) : putB (getB l) n = l := by
  subst h
  exact putB_get l
theorem get_put {x n : Nat} (h : x < 256 ^ n) : getB (putB x n) = x := by rw [getB_put, Nat.mod_eq_of_lt h]
theorem RdIn.back {x : TIn} (h : RdIn z q z' q' x) (hz : z' = false) : z = false ∧ q = x.bytes ++ q' := by
  obtain ⟨z1, q1, v1, z2, q2, v2, z3, q3, v4, a1, a2, a3, b1, b2, b3, c1, c2, c3, d1, d2, d3, e1, e2, e3⟩ := h
  obtain ⟨f3, g3, l3⟩ := rq_back d1 d2 d3 hz
  obtain ⟨f2, g2, l2⟩ := cq_back c1 c2 c3 f3
  obtain ⟨f1, g1, l1⟩ := rq_back b1 b2 b3 f2
  obtain ⟨f0, g0, l0⟩ := rq_back a1 a2 a3 f1
  refine ⟨f0, ?_⟩
  rw [TIn.bytes, e1, e2, e3, hsh_of l0, put4 l1, put4 l3, g0, g1, g2, g3]
  simp only [List.append_assoc]
theorem RdIn.on_ {x y : TIn} (h : RdIn z q z' q' x) (hz : z = false) (hq : q = y.bytes ++ T) (hy : VIn y) : z' = false ∧ q' = T ∧ (x.fr = y.fr ∧ x.ix = y.ix ∧ x.sq = y.sq ∧ x.kb = y.kb) := by
  obtain ⟨z1, q1, v1, z2, q2, v2, z3, q3, v4, a1, a2, a3, b1, b2, b3, c1, c2, c3, d1, d2, d3, e1, e2, e3⟩ := h
  obtain ⟨y1, y2, y3, y4⟩ := hy
  obtain ⟨f1, g1, w1⟩ := rq_on a1 a2 a3 hz (X := y.fr) (by rw [hq, TIn.bytes, List.append_assoc]) y1
  obtain ⟨f2, g2, w2⟩ := rq_on b1 b2 b3 f1 (X := putB y.ix 4) (by rw [g1, List.append_assoc]) (putB_length _ _)
  obtain ⟨f3, g3, w3⟩ := cq_on c1 c2 c3 f2 (b := y.kb) (by rw [g2, List.append_assoc]) y4 (by decide)
  obtain ⟨f4, g4, w4⟩ := rq_on d1 d2 d3 f3 (X := putB y.sq 4) (by rw [g3]) (putB_length _ _)
  exact ⟨f4, g4, by rw [e1, w1, hsh_of y1], by rw [e2, w2, get_put y2], by rw [e3, w4, get_put y3], w3⟩
theorem RdOut.back {x : TOut} (h : RdOut z q z' q' x) (hz : z' = false) : z = false ∧ q = x.bytes ++ q' := by
  obtain ⟨z1, q1, v1, a1, a2, a3, c1, c2, c3, e1⟩ := h
  obtain ⟨f2, g2, l2⟩ := cq_back c1 c2 c3 hz
  obtain ⟨f0, g0, l0⟩ := rq_back a1 a2 a3 f2
  refine ⟨f0, ?_⟩
  rw [TOut.bytes, e1, put4 l0, g0, g2]
  simp only [List.append_assoc]
theorem RdOut.on_ {x y : TOut} (h : RdOut z q z' q' x) (hz : z = false) (hq : q = y.bytes ++ T) (hy : VOut y) : z' = false ∧ q' = T ∧ (x.pv = y.pv ∧ x.lb = y.lb) := by
  obtain ⟨z1, q1, v1, a1, a2, a3, c1, c2, c3, e1⟩ := h
  obtain ⟨f1, g1, w1⟩ := rq_on a1 a2 a3 hz (X := putB y.pv 8) (by rw [hq, TOut.bytes, List.append_assoc]) (putB_length _ _)
  obtain ⟨f3, g3, w3⟩ := cq_on c1 c2 c3 f1 (b := y.lb) (by rw [g1]) hy.2 (by decide)
  exact ⟨f3, g3, by rw [e1, w1, get_put hy.1], w3⟩
end
section
variable {α : Type} {f : α → List UInt8} {V : α → Prop} {g : α → Nat} {n k : Nat} {z0 z z' : Bool} {q0 q q' : List UInt8} {l : List α}
def LOf (f : α → List UInt8) (V : α → Prop) (g : α → Nat) (n : Nat) (z0 : Bool) (q0 : List UInt8) (k : Nat) (z : Bool) (q : List UInt8) (l : List α) : Prop :=
  l.length = k ∧ (z = false → z0 = false ∧ q0 = l.flatMap f ++ q) ∧ ∀ (l0 : List α) (T : List UInt8), (∀ y ∈ l0, V y) → l0.length = n → z0 = false → q0 = l0.flatMap f ++ T → z = false ∧ q = (l0.drop k).flatMap f ++ T ∧ l.map g = (l0.take k).map g
theorem LOf.zero : LOf f V g n z0 q0 0 z0 q0 [] := ⟨rfl, fun h => ⟨h, rfl⟩, fun l0 T _ _ h e => ⟨h, e, by simp⟩⟩
theorem LOf.step {x : α} (h : LOf f V g n z0 q0 k z q l) (hk : k < n) (hb : z' = false → z = false ∧ q = f x ++ q') (ho : ∀ y T, V y → z = false → q = f y ++ T → z' = false ∧ q' = T ∧ g x = g y) : LOf f V g n z0 q0 (k + 1) z' q' (l ++ [x]) := by
  obtain ⟨h1, h2, h3⟩ := h
  refine ⟨by simp [h1], fun hz => ?_, fun l0 T hV hl hz hq => ?_⟩
  · obtain ⟨e1, e2⟩ := hb hz
    obtain ⟨e3, e4⟩ := h2 e1
    refine ⟨e3, ?_⟩
    rw [e4, e2, List.flatMap_append]
    simp
  · obtain ⟨e1, e2, e3⟩ := h3 l0 T hV hl hz hq
    have hkl : k < l0.length := by omega
    have hd : l0.drop k = l0[k] :: l0.drop (k + 1) := List.drop_eq_getElem_cons hkl
    rw [hd, List.flatMap_cons, List.append_assoc] at e2
    obtain ⟨o1, o2, o3⟩ := ho _ _ (hV _ (List.getElem_mem hkl)) e1 e2
    refine ⟨o1, o2, ?_⟩
    rw [List.take_add_one, List.getElem?_eq_getElem hkl, List.map_append, List.map_append, e3]
    simp [o3]
end
section
variable {α : Type} {f : α → List UInt8} {V : α → Prop} {g : α → Nat} {n k : Nat} {z0 z : Bool} {q0 q : List UInt8} {l : List α}
def LDn (f : α → List UInt8) (V : α → Prop) (g : α → Nat) (n : Nat) (z0 : Bool) (q0 : List UInt8) (z : Bool) (q : List UInt8) (l : List α) : Prop :=
  (z = false → z0 = false ∧ q0 = l.flatMap f ++ q ∧ l.length = n) ∧ ∀ (l0 : List α) (T : List UInt8), (∀ y ∈ l0, V y) → l0.length = n → z0 = false → q0 = l0.flatMap f ++ T → z = false ∧ q = T ∧ l.map g = l0.map g ∧ l.length = n
theorem LOf.done (h : LOf f V g n z0 q0 k z q l) (hk : k = n ∨ z = true) : LDn f V g n z0 q0 z q l := by
  obtain ⟨h1, h2, h3⟩ := h
  refine ⟨fun hz => ?_, fun l0 T hV hl hz hq => ?_⟩
  · obtain ⟨a, b⟩ := h2 hz
    rcases hk with rfl | hk
    · exact ⟨a, b, h1⟩
    · rw [hz] at hk
      cases hk
  · obtain ⟨a, b, c⟩ := h3 l0 T hV hl hz hq
    rcases hk with rfl | hk
    · rw [← hl, List.drop_length, List.flatMap_nil, List.nil_append] at b
      rw [← hl, List.take_length] at c
      exact ⟨a, b, c, h1⟩
    · rw [a] at hk
      cases hk
end
def VTx (v : Nat) (ins : List TIn) (outs : List TOut) (lt : Nat) : Prop :=
  (v < 4294967296 ∧ lt < 4294967296 ∧ (∀ x ∈ ins, VIn x) ∧ ∀ x ∈ outs, VOut x) ∧ (0 < ins.length ∧ ins.length ≤ 64) ∧ (0 < outs.length ∧ outs.length ≤ 64) ∧ (∀ x ∈ outs, x.pv ≤ 4611686018427387904) ∧ (txB v ins outs lt).length ≤ 4096 ∧ (txB v ins outs lt).length ≠ 64
def NoTx (bs : List UInt8) : Prop := ∀ (v : Nat) (ins : List TIn) (outs : List TOut) (lt : Nat), VTx v ins outs lt → bs ≠ txB v ins outs lt
def Psd (bs : List UInt8) (v : Nat) (ins : List TIn) (outs : List TOut) (lt n1 n2 : Nat) (z : Bool) (q : List UInt8) : Prop :=
  ∃ (z1 : Bool) (q1 v1 : List UInt8) (z2 : Bool) (q2 : List UInt8) (z3 : Bool) (q3 : List UInt8) (z4 : Bool) (q4 : List UInt8) (z5 : Bool) (q5 v6 : List UInt8),
    z1 = (!(rOK false bs 4)) ∧ q1 = rR false bs 4 ∧ v1 = rV false bs 4 ∧ z2 = (!(ctOK z1 q1 64)) ∧ q2 = ctR z1 q1 64 ∧ n1 = ctV z1 q1 64 ∧ LDn TIn.bytes VIn (fun _ => 0) n1 z2 q2 z3 q3 ins ∧
    z4 = (!(ctOK z3 q3 64)) ∧ q4 = ctR z3 q3 64 ∧ n2 = ctV z3 q3 64 ∧ LDn TOut.bytes VOut TOut.pv n2 z4 q4 z5 q5 outs ∧ z = (!(rOK z5 q5 4)) ∧ q = rR z5 q5 4 ∧ v6 = rV z5 q5 4 ∧ v = getB v1 ∧ lt = getB v6
section
variable {bs q : List UInt8} {v lt n1 n2 : Nat} {ins : List TIn} {outs : List TOut} {z : Bool}
theorem Psd.back (h : Psd bs v ins outs lt n1 n2 z q) (hz : z = false) (hq : q.length = 0) : bs = txB v ins outs lt ∧ ins.length = n1 ∧ outs.length = n2 := by
  obtain ⟨z1, q1, v1, z2, q2, z3, q3, z4, q4, z5, q5, v6, a1, a2, a3, b1, b2, b3, L1, c1, c2, c3, L2, d1, d2, d3, e1, e2⟩ := h
  obtain ⟨f6, g6, l6⟩ := rq_back d1 d2 d3 hz
  obtain ⟨f5, g5, m2⟩ := L2.1 f6
  obtain ⟨f4, g4, _⟩ := nq_back c1 c2 c3 f5
  obtain ⟨f3, g3, m1⟩ := L1.1 f4
  obtain ⟨f2, g2, _⟩ := nq_back b1 b2 b3 f3
  obtain ⟨_, g1, l1⟩ := rq_back a1 a2 a3 f2
  have hq0 := List.eq_nil_of_length_eq_zero hq
  subst hq0
  refine ⟨?_, m1, m2⟩
  rw [txB, e1, e2, put4 l1, put4 l6, m1, m2, g1, g2, g3, g4, g5, g6, List.append_nil]
  rfl
theorem Psd.on_ (h : Psd bs v ins outs lt n1 n2 z q) {v0 lt0 : Nat} {ins0 : List TIn} {outs0 : List TOut} (hV : VTx v0 ins0 outs0 lt0) (hb : bs = txB v0 ins0 outs0 lt0) : z = false ∧ q.length = 0 ∧ (ins.length = n1 ∧ 0 < n1 ∧ n1 ≤ 64) ∧ (outs.length = n2 ∧ 0 < n2 ∧ n2 ≤ 64) ∧ ∀ x ∈ outs, x.pv ≤ 4611686018427387904 := by
  obtain ⟨z1, q1, v1, z2, q2, z3, q3, z4, q4, z5, q5, v6, a1, a2, a3, b1, b2, b3, L1, c1, c2, c3, L2, d1, d2, d3, e1, e2⟩ := h
  obtain ⟨⟨hv, hlt, hI, hO⟩, hn1, hn2, hpv, _, _⟩ := hV
  obtain ⟨f1, g1, w1⟩ := rq_on a1 a2 a3 rfl (X := putB v0 4) (by rw [hb, txB]) (putB_length _ _)
  obtain ⟨f2, g2, w2⟩ := nq_on b1 b2 b3 f1 g1 hn1.2 (by decide)
  obtain ⟨f3, g3, _, m1⟩ := L1.2 ins0 _ hI w2.symm f2 g2
  obtain ⟨f4, g4, w4⟩ := nq_on c1 c2 c3 f3 g3 hn2.2 (by decide)
  obtain ⟨f5, g5, w5, m2⟩ := L2.2 outs0 _ hO w4.symm f4 g4
  obtain ⟨f6, g6, w6⟩ := rq_on d1 d2 d3 f5 (X := putB lt0 4) (T := []) (by rw [g5, List.append_nil]) (putB_length _ _)
  refine ⟨f6, by rw [g6]; rfl, ⟨m1, by omega, by omega⟩, ⟨m2, by omega, by omega⟩, fun x hx => ?_⟩
  have hm : x.pv ∈ outs0.map TOut.pv := by
    rw [← w5]
    exact List.mem_map_of_mem hx
  obtain ⟨y, hy, he⟩ := List.mem_map.1 hm
  rw [← he]
  exact hpv y hy
end
section
variable {α : Type} {f : α → List UInt8} {V : α → Prop}
theorem flat_pre (hf : ∀ x y : α, V x → V y → ∀ S T, f x ++ S = f y ++ T → S = T) : ∀ (l m : List α), l.length = m.length → (∀ x ∈ l, V x) → (∀ y ∈ m, V y) → ∀ S T, l.flatMap f ++ S = m.flatMap f ++ T → S = T
  | [], [], _, _, _, _, _, h => h
  | x :: l, y :: m, hl, hx, hy, S, T, h => by
    rw [List.flatMap_cons, List.flatMap_cons, List.append_assoc, List.append_assoc] at h
    exact flat_pre hf l m (by simpa using hl) (fun a ha => hx a (List.mem_cons_of_mem _ ha)) (fun a ha => hy a (List.mem_cons_of_mem _ ha)) S T (hf x y (hx x List.mem_cons_self) (hy y List.mem_cons_self) _ _ h)
  | [], _ :: _, hl, _, _, _, _, _ => by simp at hl
  | _ :: _, [], hl, _, _, _, _, _ => by simp at hl
theorem app_pre {a b S T : List UInt8} (hl : a.length = b.length) (h : a ++ S = b ++ T) : a = b ∧ S = T := List.append_inj h hl
theorem cnt_pre {a b : Nat} (ha : a < 18446744073709551616) (hb : b < 18446744073709551616) {S T : List UInt8} (h : cnt a ++ S = cnt b ++ T) : a = b ∧ S = T := by
  obtain ⟨_, a2, a3⟩ := ct_on (n := a) (m := 18446744073709551615) (by omega) ha S
  obtain ⟨_, b2, b3⟩ := ct_on (n := b) (m := 18446744073709551615) (by omega) hb T
  rw [h] at a2 a3
  exact ⟨a2.symm.trans b2, a3.symm.trans b3⟩
theorem cb_pre {a b S T : List UInt8} (ha : a.length < 18446744073709551616) (hb : b.length < 18446744073709551616) (h : (cnt a.length ++ a) ++ S = (cnt b.length ++ b) ++ T) : a = b ∧ S = T := by
  rw [List.append_assoc, List.append_assoc] at h
  obtain ⟨h1, h2⟩ := cnt_pre ha hb h
  exact app_pre h1 h2
theorem in_pre (x y : TIn) (hx : VIn x) (hy : VIn y) (S T : List UInt8) (h : x.bytes ++ S = y.bytes ++ T) : S = T := by
  rw [TIn.bytes, TIn.bytes] at h
  simp only [List.append_assoc] at h
  obtain ⟨_, h⟩ := app_pre (hx.1.trans hy.1.symm) h
  obtain ⟨_, h⟩ := app_pre ((putB_length _ _).trans (putB_length _ _).symm) h
  rw [← List.append_assoc (cnt x.kb.length), ← List.append_assoc (cnt y.kb.length)] at h
  obtain ⟨_, h⟩ := cb_pre (Nat.lt_of_le_of_lt hx.2.2.2 (by decide)) (Nat.lt_of_le_of_lt hy.2.2.2 (by decide)) h
  exact (app_pre ((putB_length _ _).trans (putB_length _ _).symm) h).2
theorem out_pre (x y : TOut) (hx : VOut x) (hy : VOut y) (S T : List UInt8) (h : x.bytes ++ S = y.bytes ++ T) : S = T := by
  rw [TOut.bytes, TOut.bytes] at h
  simp only [List.append_assoc] at h
  obtain ⟨_, h⟩ := app_pre ((putB_length _ _).trans (putB_length _ _).symm) h
  rw [← List.append_assoc (cnt x.lb.length), ← List.append_assoc (cnt y.lb.length)] at h
  exact (cb_pre (Nat.lt_of_le_of_lt hx.2 (by decide)) (Nat.lt_of_le_of_lt hy.2 (by decide)) h).2
theorem tx_pre {v v' lt lt' : Nat} {ins ins' : List TIn} {outs outs' : List TOut} (h : VTx v ins outs lt) (h' : VTx v' ins' outs' lt') {S T : List UInt8} (e : txB v ins outs lt ++ S = txB v' ins' outs' lt' ++ T) : S = T ∧ ins.length = ins'.length ∧ outs.length = outs'.length := by
  obtain ⟨⟨_, _, hI, hO⟩, hn, hm, _⟩ := h
  obtain ⟨⟨_, _, hI', hO'⟩, hn', hm', _⟩ := h'
  rw [txB, txB] at e
  simp only [List.append_assoc] at e
  obtain ⟨_, e⟩ := app_pre ((putB_length _ _).trans (putB_length _ _).symm) e
  obtain ⟨e1, e⟩ := cnt_pre (by omega) (by omega) e
  have e := flat_pre in_pre ins ins' e1 hI hI' _ _ e
  obtain ⟨e2, e⟩ := cnt_pre (by omega) (by omega) e
  have e := flat_pre out_pre outs outs' e2 hO hO' _ _ e
  exact ⟨(app_pre ((putB_length _ _).trans (putB_length _ _).symm) e).2, e1, e2⟩
end
end Go.Proofs.Ytcedmbdahbdmaaa
namespace Go.Proofs.Ytcedmbdahbdmaaa
open Go.RowKit
section
variable {w0 w : World} {S : List Nat} {L R A' B' : List Ent} {Bs Cs : List (Option Addr × Nat × Nat × TypeId × List Value)}
theorem Hp.bagNil (H : Hp w0 S L w) : Hp w0 S (L ++ [.bag []]) w := by
  refine H.callNew (L' := [.bag []]) ⟨rfl, rfl, rfl, Nat.le_refl _, fun k hk _ => rfl, ?_, ?_, by simp [ids, Ent.ids]⟩
  · intro e he
    simp at he
    subst he
    exact fun p hp => by cases hp
  · intro k hk
    simp [ids, Ent.ids] at hk
theorem Hp.bagIn {A : Option Addr} {n c e : Nat} {xs : List Value} (H : Hp w0 S (.row A n c e 1 xs :: .bag Bs :: R) w) : Hp w0 S (.bag ((A, n, c, e, xs) :: Bs) :: R) w := by
  have hi : ids (.bag ((A, n, c, e, xs) :: Bs) :: R) = ids (.row A n c e 1 xs :: .bag Bs :: R) := by simp [ids, Ent.ids]
  refine ⟨H.os, H.tape, H.output, H.size, H.keep, ?_, by rw [hi]; exact H.old, by rw [hi]; exact H.nd⟩
  intro x hx
  rcases List.mem_cons.1 hx with rfl | h
  · intro p hp
    rcases List.mem_cons.1 hp with rfl | h
    · exact H.ents (.row A n c e 1 xs) (by simp)
    · exact H.ents (.bag Bs) (by simp) p h
  · exact H.ents x (by simp [h])
theorem RdO.bag (H : Hp w0 S (A' ++ B') w) (i : Nat) {r : Option Addr} {n c e : Nat} {xs : List Value} (hL : B'[i]? = some (.bag Bs)) (hm : (r, n, c, e, xs) ∈ Bs) : RdO w (ids A') r xs := by
  have hb : w.ownsRow 0 e 1 (.slice r n c) n xs := (H.ents _ (List.mem_append_right _ (List.mem_of_getElem? hL))) _ hm
  have hr : RdS w r xs := RdS.row hb
  have hnd := H.nd
  rw [ids_append] at hnd
  obtain ⟨_, _, n3⟩ := List.nodup_append.1 hnd
  intro W hs hk
  rcases hr with h | ⟨a, hA, ha, hc⟩
  · exact .inl h
  · refine .inr ⟨a, hA, Nat.lt_of_lt_of_le ha hs, fun j v hv => ?_⟩
    have hb : (a.add j).block = a.block := add_block a j
    rw [World.cell?_of_block (w := w) (hk (a.add j).block (by rw [hb]; exact ha) (fun hin => ?_))]
    · exact hc j v hv
    · rw [hb] at hin
      exact n3 _ hin _ (ids_mem (List.mem_of_getElem? hL) (by subst hA; exact List.mem_flatMap.2 ⟨_, hm, by simp⟩)) rfl
theorem Hp.bagRd (H : Hp w0 S L w) (i : Nat) {r : Option Addr} {n c e : Nat} {xs : List Value} (hL : L[i]? = some (.bag Bs)) (hm : (r, n, c, e, xs) ∈ Bs) : RdS w r xs := RdS.row ((H.ents _ (List.mem_of_getElem? hL)) _ hm)
theorem Hp.bagLe (H : Hp w0 S L w) (i : Nat) {r : Option Addr} {n c e : Nat} {xs : List Value} (hL : L[i]? = some (.bag Bs)) (hm : (r, n, c, e, xs) ∈ Bs) : n ≤ c ∧ xs.length = n ∧ c ≤ maxLen := by
  have h : w.ownsRow 0 e 1 (.slice r n c) n xs := (H.ents _ (List.mem_of_getElem? hL)) _ hm
  have h1 := h.1
  rw [Nat.mul_one] at h1
  rcases h.2 with ⟨h0, hn⟩ | ⟨g, cap, cur, hv, _, hh, hnc, hm, hsz, ht⟩
  · refine ⟨by omega, h1, ?_⟩
    injection h0 with _ _ hc
    subst hc
    exact Nat.zero_le _
  · injection hv with _ _ hc
    subst hc
    exact ⟨hnc, h1, hm⟩
end
end Go.Proofs.Ytcedmbdahbdmaaa
set_option maxRecDepth 100000
namespace Go.Proofs.Ytcedmbdahbdmaaa
open Go.RowKit
theorem CTake_calls (S : List Nat) (p : Nat) (A : Option Addr) (xs : List UInt8) (c at_ : Nat) (z : Bool) (q : List UInt8) (n : Nat) (w : World) (h0 : Hp w S [.blk p [.slice A xs.length c, .int .i64 (at_ : Int), .bool z] 96] w) (hx : RdO w S A (by8 xs)) (hq : q = if z then [] else xs.drop at_) (hat : at_ ≤ xs.length) (hc : xs.length ≤ c) (hl : xs.length ≤ 1000000) (hn : n ≤ 1000000) : Calls Try.prog 45 #[pt p 0, .int .i64 (n : Int)] w fun e w' => ∃ (D : Option Addr) (d at' : Nat), e = .returned (.slice D (rV z q n).length d) ∧ Hp w S [.blk p [.slice A xs.length c, .int .i64 (at' : Int), .bool (!(rOK z q n))] 96] w' ∧ Cut A xs D (rV z q n) ∧ at' ≤ xs.length ∧ rR z q n = if (!(rOK z q n)) then [] else xs.drop at' := by
  refine calls_G (args := [pt p 0, .int .i64 (n : Int)]) Try.func45 rfl Try.ntmps45 rfl ?_
  intro Q0 hRet hNor hPan
  have H := h0
  have H : Hp w S [.blk p [.slice A xs.length c, .int .i64 (at_ : Int), .bool z] 96] w := H
  refine G.seqK fun K1 hK2 => ?_
  refine G.region ?_
  refine GL.run (j := 1) 1 [0, 1] [(0, pt p 0), (1, .int .i64 (n : Int))] (by kernel_rfl) rfl ?_
  refine GL.k rfl hK2 (fun _ _ h => h) ?_
  refine G.seqK fun K3 hK4 => ?_
  refine G.seqK fun K5 hK6 => ?_
  refine G.draw H (by kernel_rfl) (by kernel_rfl) ?_
  refine GQ.run (j := 3) 3 [0, 1, 7] [(0, pt p 0), (1, .int .i64 (n : Int)), (7, pt p 2)] (by kernel_rfl) rfl ?_
  refine GQ.sem (j := 4) (fun w_ H_ => H_.ld (o := 2) (ty := 4) (v := .bool z) 0 rfl (by kernel_rfl) rfl) [0, 1, 8] [(0, pt p 0), (1, .int .i64 (n : Int)), (8, .bool z)] (by kernel_rfl) (by kernel_rfl) rfl ?_
  refine GQ.run (j := 5) 1 [0, 1, 9] [(0, pt p 0), (1, .int .i64 (n : Int)), (9, .bool z)] (by kernel_rfl) rfl ?_
  rcases (Bool.eq_false_or_eq_true z).symm with hb7 | hb7
  · skip
    refine GQ.eq (M' := [(0, pt p 0), (1, .int .i64 (n : Int)), (9, .bool false)]) (by first | (rw [hb7]; done) | (rw [hb7]; rfl)) ?_
    refine GQ.run (j := 9) 4 [0, 1, 9, 10, 13] [(0, pt p 0), (1, .int .i64 (n : Int)), (9, .bool false), (10, .int .i64 (n : Int)), (13, pt p 0)] (by kernel_rfl) rfl ?_
    refine GQ.sem (j := 10) (fun w_ H_ => H_.ld (o := 0) (ty := 38) (v := .slice A xs.length c) 0 rfl (by kernel_rfl) rfl) [0, 1, 9, 10, 14] [(0, pt p 0), (1, .int .i64 (n : Int)), (9, .bool false), (10, .int .i64 (n : Int)), (14, .slice A xs.length c)] (by kernel_rfl) (by kernel_rfl) rfl ?_
    refine GQ.run (j := 14) 4 [0, 1, 9, 10, 15, 18] [(0, pt p 0), (1, .int .i64 (n : Int)), (9, .bool false), (10, .int .i64 (n : Int)), (15, .int .i64 (xs.length : Int)), (18, pt p 1)] (by kernel_rfl) rfl ?_
    refine GQ.sem (j := 15) (fun w_ H_ => H_.ld (o := 1) (ty := 3) (v := .int .i64 (at_ : Int)) 0 rfl (by kernel_rfl) rfl) [0, 1, 9, 10, 15, 19] [(0, pt p 0), (1, .int .i64 (n : Int)), (9, .bool false), (10, .int .i64 (n : Int)), (15, .int .i64 (xs.length : Int)), (19, .int .i64 (at_ : Int))] (by kernel_rfl) (by kernel_rfl) rfl ?_
    refine GQ.run (j := 18) 3 [0, 1, 22] [(0, pt p 0), (1, .int .i64 (n : Int)), (22, .bool (decide ((IntKind.i64.wrap ((xs.length : Int) - (at_ : Int))) < (n : Int))))] (by kernel_rfl) rfl ?_
    have e8 : (IntKind.i64.wrap ((xs.length : Int) - (at_ : Int))) = ((xs.length : Int) - (at_ : Int)) := in_i64 (by first | rfl | omega | (simp only [List.length_cons, List.length_nil, List.length_drop, List.length_take, List.length_append] <;> omega))
    refine GQ.eq (M' := [(0, pt p 0), (1, .int .i64 (n : Int)), (22, .bool (decide (((xs.length : Int) - (at_ : Int)) < (n : Int))))]) (by rw [e8]) ?_
    clear e8
    refine GQ.k rfl hK6 (fun _ _ h => h) (fun w9 H10 => ?_)
    cases hb11 : (decide (((xs.length : Int) - (at_ : Int)) < (n : Int)))
    · skip
      have hb11f := of_decide_eq_false hb11
      refine G.no rfl ?_
      refine G.skipK hK4 (fun _ _ h => h) ?_
      refine G.seqK fun K12 hK13 => ?_
      refine G.region ?_
      refine GL.run (j := 4) 4 [0, 1, 27, 30] [(0, pt p 0), (1, .int .i64 (n : Int)), (27, pt p 0), (30, pt p 1)] (by kernel_rfl) rfl ?_
      refine GL.sem (j := 5) (H10.ld (o := 1) (ty := 3) (v := .int .i64 (at_ : Int)) 0 rfl (by kernel_rfl) rfl) [0, 1, 27, 31] [(0, pt p 0), (1, .int .i64 (n : Int)), (27, pt p 0), (31, .int .i64 (at_ : Int))] (by kernel_rfl) (by kernel_rfl) rfl ?_
      refine GL.run (j := 9) 4 [0, 1, 33, 35] [(0, pt p 0), (1, .int .i64 (n : Int)), (33, .int .i64 (IntKind.i64.wrap ((at_ : Int) + (n : Int)))), (35, pt p 1)] (by kernel_rfl) rfl ?_
      have e14 : (IntKind.i64.wrap ((at_ : Int) + (n : Int))) = ((at_ + n : Nat) : Int) := by rw [in_i64 (by omega)]; omega
      refine GL.eq (M' := [(0, pt p 0), (1, .int .i64 (n : Int)), (33, .int .i64 ((at_ + n : Nat) : Int)), (35, pt p 1)]) (by rw [e14]) ?_
      clear e14
      obtain ⟨w15, r16, H17⟩ := H10.st (P := Try.prog) (o := 1) (ty := 3) (v := .int .i64 ((at_ + n : Nat) : Int)) 0 rfl (by kernel_rfl) (by simp) rfl
      have H17 : Hp w S [.blk p [.slice A xs.length c, .int .i64 ((at_ + n : Nat) : Int), .bool z] 96] w15 := H17
      refine GL.semU (j := 10) r16 [0, 1] [(0, pt p 0), (1, .int .i64 (n : Int))] (by kernel_rfl) rfl rfl rfl ?_
      refine GL.k rfl hK13 (fun _ _ h => h) ?_
      refine G.seqK fun K18 hK19 => ?_
      refine G.draw H17 (by kernel_rfl) (by kernel_rfl) ?_
      refine GQ.run (j := 3) 3 [0, 1, 38] [(0, pt p 0), (1, .int .i64 (n : Int)), (38, pt p 0)] (by kernel_rfl) rfl ?_
      refine GQ.sem (j := 4) (fun w_ H_ => H_.ld (o := 0) (ty := 38) (v := .slice A xs.length c) 0 rfl (by kernel_rfl) rfl) [0, 1, 39] [(0, pt p 0), (1, .int .i64 (n : Int)), (39, .slice A xs.length c)] (by kernel_rfl) (by kernel_rfl) rfl ?_
      refine GQ.run (j := 7) 3 [0, 1, 39, 42] [(0, pt p 0), (1, .int .i64 (n : Int)), (39, .slice A xs.length c), (42, pt p 1)] (by kernel_rfl) rfl ?_
      refine GQ.sem (j := 8) (fun w_ H_ => H_.ld (o := 1) (ty := 3) (v := .int .i64 ((at_ + n : Nat) : Int)) 0 rfl (by kernel_rfl) rfl) [0, 1, 39, 43] [(0, pt p 0), (1, .int .i64 (n : Int)), (39, .slice A xs.length c), (43, .int .i64 ((at_ + n : Nat) : Int))] (by kernel_rfl) (by kernel_rfl) rfl ?_
      refine GQ.run (j := 13) 5 [39, 45, 48] [(39, .slice A xs.length c), (45, .int .i64 (IntKind.i64.wrap (((at_ + n : Nat) : Int) - (n : Int)))), (48, pt p 1)] (by kernel_rfl) rfl ?_
      have e20 : (IntKind.i64.wrap (((at_ + n : Nat) : Int) - (n : Int))) = ((at_ : Nat) : Int) := by rw [in_i64 (by omega)]; omega
      refine GQ.eq (M' := [(39, .slice A xs.length c), (45, .int .i64 ((at_ : Nat) : Int)), (48, pt p 1)]) (by rw [e20]) ?_
      clear e20
      refine GQ.sem (j := 14) (fun w_ H_ => H_.ld (o := 1) (ty := 3) (v := .int .i64 ((at_ + n : Nat) : Int)) 0 rfl (by kernel_rfl) rfl) [39, 45, 49] [(39, .slice A xs.length c), (45, .int .i64 ((at_ : Nat) : Int)), (49, .int .i64 ((at_ + n : Nat) : Int))] (by kernel_rfl) (by kernel_rfl) rfl ?_
      refine GQ.sem (j := 15) (fun w_ H_ => run_sliceSl (P := Try.prog) (lo := some (.int .i64 ((at_ : Nat) : Int))) (hi := some (.int .i64 ((at_ + n : Nat) : Int))) (t := 38) (len := xs.length) (cap := c) (A := A) (l := at_) (h := at_ + n) (by kernel_rfl) (Or.inr ⟨_, _, rfl, rfl⟩) (Or.inr ⟨_, _, rfl, rfl⟩) (by omega) (by omega)) [50] [(50, .slice (if c = at_ then A else Option.map (fun x => Addr.add x at_) A) (at_ + n - at_) (c - at_))] (by kernel_rfl) (by kernel_rfl) rfl ?_
      refine GQ.run (j := 16) 1 [4] [(4, .slice (if c = at_ then A else Option.map (fun x => Addr.add x at_) A) (at_ + n - at_) (c - at_))] (by kernel_rfl) rfl ?_
      refine GQ.k rfl hK19 (fun _ _ h => h) (fun w21 H22 => ?_)
      refine G.ret ?_
      intro F_ hF_ hM_
      refine hRet _ _ (bodyPost_1 rfl (RV.tmp rfl) ?_ F_ hF_ hM_)
      have hzF : z = false := by assumption
      subst hzF
      have hqF : q = xs.drop at_ := by rw [hq]; rfl
      subst hqF
      obtain ⟨o1, o2, o3⟩ := rOK_true (rest := xs.drop at_) (n := n) (by rw [List.length_drop]; omega)
      rw [o1, o2, o3, show ((xs.drop at_).take n).length = (at_ + n) - at_ by rw [List.length_take, List.length_drop]; omega]
      exact ⟨_, _, at_ + n, rfl, H22, fun W hW => by have h_ := RdS.cut8 (cap := c) hW at_ (at_ + n) (cs := (xs.take (at_ + n)).drop at_) hc rfl; rw [List.drop_take, Nat.add_sub_cancel_left] at h_; exact h_, by omega, by rw [List.drop_drop]; rfl⟩
    · skip
      have hb11f := of_decide_eq_true hb11
      refine G.yes rfl ?_
      refine G.seqK fun K23 hK24 => ?_
      refine G.region ?_
      refine GL.run (j := 3) 3 [25] [(25, pt p 2)] (by kernel_rfl) rfl ?_
      obtain ⟨w25, r26, H27⟩ := H10.st (P := Try.prog) (o := 2) (ty := 4) (v := .bool true) 0 rfl (by kernel_rfl) (by simp) rfl
      have H27 : Hp w S [.blk p [.slice A xs.length c, .int .i64 (at_ : Int), .bool true] 96] w25 := H27
      refine GL.semU (j := 4) r26 [] [] (by kernel_rfl) rfl rfl rfl ?_
      refine GL.k rfl hK24 (fun _ _ h => h) ?_
      refine G.seqK fun K28 hK29 => ?_
      refine G.region ?_
      obtain ⟨p30, w31, r32, H33⟩ := H27.made (P := Try.prog) (Instr.makeSlice 38 (.int .i64 0) (.int .i64 0)) (fun b_ => .slice (some ⟨b_, 0, none⟩) 0 0) [] 5 (by kernel_rfl)
      have H33 : Hp w S [.blk p [.slice A xs.length c, .int .i64 (at_ : Int), .bool true] 96, .blk p30 [] 5] w31 := H33
      refine GL.sem (j := 1) (r32) [26] [(26, .slice (some ⟨p30, 0, none⟩) 0 0)] (by kernel_rfl) (by kernel_rfl) rfl ?_
      refine GL.run (j := 2) 1 [4] [(4, .slice (some ⟨p30, 0, none⟩) 0 0)] (by kernel_rfl) rfl ?_
      refine GL.k rfl hK29 (fun _ _ h => h) ?_
      refine G.ret ?_
      intro F_ hF_ hM_
      refine hRet _ _ (bodyPost_1 rfl (RV.tmp rfl) ?_ F_ hF_ hM_)
      have H34 : Hp w S [.blk p [.slice A xs.length c, .int .i64 (at_ : Int), .bool true] 96] w31 := H33.sub (List.Sublist.cons_cons _ (List.Sublist.cons _ (List.Sublist.slnil)))
      have hzq : z = true ∨ q.length < n := .inr (by rw [hq, show z = false by assumption]; show (xs.drop at_).length < n; rw [List.length_drop]; omega)
      obtain ⟨e1, e2, e3⟩ := rOK_false (wr := z) (rest := q) (n := n) hzq
      rw [e1, e2, e3]
      exact ⟨_, _, at_, rfl, H34, Cut.nil _ _ _, hat, rfl⟩
  · skip
    refine GQ.eq (M' := [(0, pt p 0), (1, .int .i64 (n : Int)), (9, .bool true)]) (by first | (rw [hb7]; done) | (rw [hb7]; rfl)) ?_
    refine GQ.run (j := 18) 13 [0, 1, 22] [(0, pt p 0), (1, .int .i64 (n : Int)), (22, .bool true)] (by kernel_rfl) rfl ?_
    refine GQ.k rfl hK6 (fun _ _ h => h) (fun w35 H36 => ?_)
    refine G.yes rfl ?_
    refine G.seqK fun K37 hK38 => ?_
    refine G.region ?_
    refine GL.run (j := 3) 3 [25] [(25, pt p 2)] (by kernel_rfl) rfl ?_
    obtain ⟨w39, r40, H41⟩ := H36.st (P := Try.prog) (o := 2) (ty := 4) (v := .bool true) 0 rfl (by kernel_rfl) (by simp) rfl
    have H41 : Hp w S [.blk p [.slice A xs.length c, .int .i64 (at_ : Int), .bool true] 96] w39 := H41
    refine GL.semU (j := 4) r40 [] [] (by kernel_rfl) rfl rfl rfl ?_
    refine GL.k rfl hK38 (fun _ _ h => h) ?_
    refine G.seqK fun K42 hK43 => ?_
    refine G.region ?_
    obtain ⟨p44, w45, r46, H47⟩ := H41.made (P := Try.prog) (Instr.makeSlice 38 (.int .i64 0) (.int .i64 0)) (fun b_ => .slice (some ⟨b_, 0, none⟩) 0 0) [] 5 (by kernel_rfl)
    have H47 : Hp w S [.blk p [.slice A xs.length c, .int .i64 (at_ : Int), .bool true] 96, .blk p44 [] 5] w45 := H47
    refine GL.sem (j := 1) (r46) [26] [(26, .slice (some ⟨p44, 0, none⟩) 0 0)] (by kernel_rfl) (by kernel_rfl) rfl ?_
    refine GL.run (j := 2) 1 [4] [(4, .slice (some ⟨p44, 0, none⟩) 0 0)] (by kernel_rfl) rfl ?_
    refine GL.k rfl hK43 (fun _ _ h => h) ?_
    refine G.ret ?_
    intro F_ hF_ hM_
    refine hRet _ _ (bodyPost_1 rfl (RV.tmp rfl) ?_ F_ hF_ hM_)
    have H48 : Hp w S [.blk p [.slice A xs.length c, .int .i64 (at_ : Int), .bool true] 96] w45 := H47.sub (List.Sublist.cons_cons _ (List.Sublist.cons _ (List.Sublist.slnil)))
    have hzq : z = true ∨ q.length < n := .inl (by assumption)
    obtain ⟨e1, e2, e3⟩ := rOK_false (wr := z) (rest := q) (n := n) hzq
    rw [e1, e2, e3]
    exact ⟨_, _, at_, rfl, H48, Cut.nil _ _ _, hat, rfl⟩
theorem CCount_calls (S : List Nat) (p : Nat) (A : Option Addr) (xs : List UInt8) (c at_ : Nat) (z : Bool) (q : List UInt8) (m : Nat) (w : World) (h0 : Hp w S [.blk p [.slice A xs.length c, .int .i64 (at_ : Int), .bool z] 96] w) (hx : RdO w S A (by8 xs)) (hq : q = if z then [] else xs.drop at_) (hat : at_ ≤ xs.length) (hc : xs.length ≤ c) (hl : xs.length ≤ 1000000) (hm : m ≤ 1000) : Calls Try.prog 46 #[pt p 0, .int .u64 (m : Int)] w fun e w' => ∃ (at' : Nat), e = .returned (.int .i64 ((ctV z q m : Nat) : Int)) ∧ Hp w S [.blk p [.slice A xs.length c, .int .i64 (at' : Int), .bool (!(ctOK z q m))] 96] w' ∧ at' ≤ xs.length ∧ ctR z q m = if (!(ctOK z q m)) then [] else xs.drop at' := by
  refine calls_G (args := [pt p 0, .int .u64 (m : Int)]) Try.func46 rfl Try.ntmps46 rfl ?_
  intro Q0 hRet hNor hPan
  have H := h0
  have H : Hp w S [.blk p [.slice A xs.length c, .int .i64 (at_ : Int), .bool z] 96] w := H
  refine G.seqK fun K1 hK2 => ?_
  refine G.region ?_
  refine GL.run (j := 1) 1 [0, 1] [(0, pt p 0), (1, .int .u64 (m : Int))] (by kernel_rfl) rfl ?_
  refine GL.k rfl hK2 (fun _ _ h => h) ?_
  refine G.seqK fun K3 hK4 => ?_
  refine G.seqK fun K5 hK6 => ?_
  refine G.region ?_
  refine GL.run (j := 3) 3 [0, 1, 10] [(0, pt p 0), (1, .int .u64 (m : Int)), (10, pt p 2)] (by kernel_rfl) rfl ?_
  refine GL.sem (j := 4) (H.ld (o := 2) (ty := 4) (v := .bool z) 0 rfl (by kernel_rfl) rfl) [0, 1, 11] [(0, pt p 0), (1, .int .u64 (m : Int)), (11, .bool z)] (by kernel_rfl) (by kernel_rfl) rfl ?_
  refine GL.k rfl hK6 (fun _ _ h => h) ?_
  rcases (Bool.eq_false_or_eq_true z).symm with hb7 | hb7
  · skip
    refine G.eq (M' := [(0, pt p 0), (1, .int .u64 (m : Int)), (11, .bool false)]) (by first | (rw [hb7]; done) | (rw [hb7]; rfl)) ?_
    refine G.no rfl ?_
    refine G.skipK hK4 (fun _ _ h => h) ?_
    refine G.seqK fun K8 hK9 => ?_
    refine G.heldP (Hp w S [.blk p [.slice A xs.length c, .int .i64 (at_ : Int), .bool z] 96]) (by kernel_rfl) (by kernel_rfl) (fun c_ a_ d_ v_ w_ h_ => hPan c_ a_ d_ v_ w_ h_) ?_
    have H10 := H.drew
    generalize ({ w with drawn := w.drawn + 1 } : World) = w11 at H10 ⊢
    have hS12 : Hp w S [.blk p [.slice A xs.length c, .int .i64 (at_ : Int), .bool z] 96] w11 := H10.sub (List.Sublist.cons_cons _ (List.Sublist.slnil))
    refine GP.run [0, 1, 2] [0, 1, 15] [(0, pt p 0), (1, .int .u64 (m : Int)), (15, pt p 0)] [0, 1, 2] (by kernel_rfl) rfl hS12 ?_
    refine GP.sem 3 (fun w_ H_ => H_.ld (o := 0) (ty := 38) (v := .slice A xs.length c) 0 rfl (by kernel_rfl) rfl) [0, 1, 16] [(0, pt p 0), (1, .int .u64 (m : Int)), (16, .slice A xs.length c)] (by kernel_rfl) (by kernel_rfl) (by kernel_rfl) hS12 ?_
    refine GP.run [4, 5, 6] [0, 1, 16, 19] [(0, pt p 0), (1, .int .u64 (m : Int)), (16, .slice A xs.length c), (19, pt p 1)] [0, 1, 2, 3, 4, 5, 6] (by kernel_rfl) rfl hS12 ?_
    refine GP.sem 7 (fun w_ H_ => H_.ld (o := 1) (ty := 3) (v := .int .i64 (at_ : Int)) 0 rfl (by kernel_rfl) rfl) [0, 1, 16, 20] [(0, pt p 0), (1, .int .u64 (m : Int)), (16, .slice A xs.length c), (20, .int .i64 (at_ : Int))] (by kernel_rfl) (by kernel_rfl) (by kernel_rfl) hS12 ?_
    refine GP.sem 8 (fun w_ H_ => run_sliceSl (P := Try.prog) (lo := some (.int .i64 (at_ : Int))) (hi := none) (t := 38) (len := xs.length) (cap := c) (A := A) (l := at_) (h := xs.length) (by kernel_rfl) (Or.inr ⟨_, _, rfl, rfl⟩) (Or.inl ⟨rfl, rfl⟩) (by first | rfl | omega | (simp only [List.length_cons, List.length_nil, List.length_drop, List.length_take, List.length_append] <;> omega)) (by first | rfl | omega | (simp only [List.length_cons, List.length_nil, List.length_drop, List.length_take, List.length_append] <;> omega))) [0, 1, 21] [(0, pt p 0), (1, .int .u64 (m : Int)), (21, .slice (if c = at_ then A else Option.map (fun x => Addr.add x at_) A) (xs.length - at_) (c - at_))] (by kernel_rfl) (by kernel_rfl) (by kernel_rfl) hS12 ?_
    refine GP.call 9 (ReadCount_calls (xs.drop at_) (if c = at_ then A else Option.map (fun x => Addr.add x at_) A) (xs.length - at_) (c - at_) w11 (RdS.drop8 (cap := c) (hx.hp H10) at_ (cs := (xs.drop at_)) (hc) rfl) (by rw [List.length_drop]) (by omega) (by omega)) (by kernel_rfl) (by kernel_rfl) (fun e_ w13 hR => ?_)
    obtain ⟨v_, s_, rfl, hvs_, H15⟩ := hR
    have H14 : Hp w S [.blk p [.slice A xs.length c, .int .i64 (at_ : Int), .bool z] 96] w13 := H10.callNil H15
    have hS16 : Hp w S [.blk p [.slice A xs.length c, .int .i64 (at_ : Int), .bool z] 96] w13 := H14.sub (List.Sublist.cons_cons _ (List.Sublist.slnil))
    refine ⟨_, rfl, hS16, [0, 1, 22], [(0, pt p 0), (1, .int .u64 (m : Int)), (22, .tuple #[.int .u64 (v_ : Int), .int .i64 (s_ : Int), .bool (cnOK (xs.drop at_))])], by kernel_rfl, ?_⟩
    refine GP.run [10, 11, 12, 13, 14, 15, 16] [0, 1, 5, 6, 7] [(0, pt p 0), (1, .int .u64 (m : Int)), (5, .int .u64 (v_ : Int)), (6, .int .i64 (s_ : Int)), (7, .bool (cnOK (xs.drop at_)))] [0, 1, 2, 3, 4, 5, 6, 7, 8, 9, 10, 11, 12, 13, 14, 15, 16] (by kernel_rfl) rfl hS16 ?_
    refine GP.k (by kernel_rfl) hK9 (fun _ _ h => h) ?_
    refine G.seqK fun K17 hK18 => ?_
    refine G.seqK fun K19 hK20 => ?_
    refine G.region ?_
    refine GL.run (j := 3) 3 [0, 1, 5, 6, 28] [(0, pt p 0), (1, .int .u64 (m : Int)), (5, .int .u64 (v_ : Int)), (6, .int .i64 (s_ : Int)), (28, .bool (!(cnOK (xs.drop at_))))] (by kernel_rfl) rfl ?_
    cases hb21 : (cnOK (xs.drop at_))
    · skip
      have hzF : z = false := by assumption
      have hqF : q = xs.drop at_ := by rw [hq, hzF]; rfl
      refine GL.run (j := 7) 4 [0, 5, 6, 32] [(0, pt p 0), (5, .int .u64 (v_ : Int)), (6, .int .i64 (s_ : Int)), (32, .bool true)] (by kernel_rfl) rfl ?_
      refine GL.k rfl hK20 (fun _ _ h => h) ?_
      refine G.yes rfl ?_
      refine G.seqK fun K22 hK23 => ?_
      refine G.region ?_
      refine GL.run (j := 3) 3 [35] [(35, pt p 2)] (by kernel_rfl) rfl ?_
      obtain ⟨w24, r25, H26⟩ := H14.st (P := Try.prog) (o := 2) (ty := 4) (v := .bool true) 0 rfl (by kernel_rfl) (by simp) rfl
      have H26 : Hp w S [.blk p [.slice A xs.length c, .int .i64 (at_ : Int), .bool true] 96] w24 := H26
      refine GL.semU (j := 4) r25 [] [] (by kernel_rfl) rfl rfl rfl ?_
      refine GL.k rfl hK23 (fun _ _ h => h) ?_
      refine G.seqK fun K27 hK28 => ?_
      refine G.region ?_
      refine GL.run (j := 1) 1 [4] [(4, .int .i64 0)] (by kernel_rfl) rfl ?_
      refine GL.k rfl hK28 (fun _ _ h => h) ?_
      refine G.ret ?_
      intro F_ hF_ hM_
      refine hRet _ _ (bodyPost_1 rfl (RV.tmp rfl) ?_ F_ hF_ hM_)
      subst hzF
      subst hqF
      obtain ⟨e1, e2, e3⟩ := ct_no (q := xs.drop at_) (m := m) (by rw [hb21]; rfl)
      rw [e1, e2, e3]
      exact ⟨at_, rfl, H26, hat, rfl⟩
    · skip
      have hzF : z = false := by assumption
      have hqF : q = xs.drop at_ := by rw [hq, hzF]; rfl
      have hvs := hvs_ hb21
      have hcf := cn_fits hb21
      rw [List.length_drop] at hcf
      refine GL.run (j := 7) 4 [0, 5, 6, 32] [(0, pt p 0), (5, .int .u64 (v_ : Int)), (6, .int .i64 (s_ : Int)), (32, .bool (decide ((m : Int) < (v_ : Int))))] (by kernel_rfl) rfl ?_
      refine GL.k rfl hK20 (fun _ _ h => h) ?_
      cases hb29 : (decide ((m : Int) < (v_ : Int)))
      · skip
        have hb29f := of_decide_eq_false hb29
        refine G.no rfl ?_
        refine G.skipK hK18 (fun _ _ h => h) ?_
        refine G.seqK fun K30 hK31 => ?_
        refine G.region ?_
        refine GL.run (j := 4) 4 [5, 6, 36, 39] [(5, .int .u64 (v_ : Int)), (6, .int .i64 (s_ : Int)), (36, pt p 0), (39, pt p 1)] (by kernel_rfl) rfl ?_
        refine GL.sem (j := 5) (H14.ld (o := 1) (ty := 3) (v := .int .i64 (at_ : Int)) 0 rfl (by kernel_rfl) rfl) [5, 6, 36, 40] [(5, .int .u64 (v_ : Int)), (6, .int .i64 (s_ : Int)), (36, pt p 0), (40, .int .i64 (at_ : Int))] (by kernel_rfl) (by kernel_rfl) rfl ?_
        refine GL.run (j := 9) 4 [5, 42, 44] [(5, .int .u64 (v_ : Int)), (42, .int .i64 (IntKind.i64.wrap ((at_ : Int) + (s_ : Int)))), (44, pt p 1)] (by kernel_rfl) rfl ?_
        have e32 : (IntKind.i64.wrap ((at_ : Int) + (s_ : Int))) = ((at_ + s_ : Nat) : Int) := by rw [in_i64 (by omega)]; omega
        refine GL.eq (M' := [(5, .int .u64 (v_ : Int)), (42, .int .i64 ((at_ + s_ : Nat) : Int)), (44, pt p 1)]) (by rw [e32]) ?_
        clear e32
        obtain ⟨w33, r34, H35⟩ := H14.st (P := Try.prog) (o := 1) (ty := 3) (v := .int .i64 ((at_ + s_ : Nat) : Int)) 0 rfl (by kernel_rfl) (by simp) rfl
        have H35 : Hp w S [.blk p [.slice A xs.length c, .int .i64 ((at_ + s_ : Nat) : Int), .bool z] 96] w33 := H35
        refine GL.semU (j := 10) r34 [5] [(5, .int .u64 (v_ : Int))] (by kernel_rfl) rfl rfl rfl ?_
        refine GL.k rfl hK31 (fun _ _ h => h) ?_
        refine G.seqK fun K36 hK37 => ?_
        refine G.region ?_
        refine GL.run (j := 3) 3 [4] [(4, .int .i64 (IntKind.i64.wrap (v_ : Int)))] (by kernel_rfl) rfl ?_
        have e38 : (IntKind.i64.wrap (v_ : Int)) = (v_ : Int) := in_i64 (by omega)
        refine GL.eq (M' := [(4, .int .i64 (v_ : Int))]) (by rw [e38]) ?_
        clear e38
        refine GL.k rfl hK37 (fun _ _ h => h) ?_
        refine G.ret ?_
        intro F_ hF_ hM_
        refine hRet _ _ (bodyPost_1 rfl (RV.tmp rfl) ?_ F_ hF_ hM_)
        subst hzF
        subst hqF
        obtain ⟨e1, e2, e3⟩ := ct_yes (q := xs.drop at_) (m := m) hb21 (by omega)
        rw [e1, e2, e3, ← hvs.1, ← hvs.2]
        exact ⟨at_ + s_, rfl, H35, by omega, by rw [List.drop_drop]; rfl⟩
      · skip
        have hb29f := of_decide_eq_true hb29
        refine G.yes rfl ?_
        refine G.seqK fun K39 hK40 => ?_
        refine G.region ?_
        refine GL.run (j := 3) 3 [35] [(35, pt p 2)] (by kernel_rfl) rfl ?_
        obtain ⟨w41, r42, H43⟩ := H14.st (P := Try.prog) (o := 2) (ty := 4) (v := .bool true) 0 rfl (by kernel_rfl) (by simp) rfl
        have H43 : Hp w S [.blk p [.slice A xs.length c, .int .i64 (at_ : Int), .bool true] 96] w41 := H43
        refine GL.semU (j := 4) r42 [] [] (by kernel_rfl) rfl rfl rfl ?_
        refine GL.k rfl hK40 (fun _ _ h => h) ?_
        refine G.seqK fun K44 hK45 => ?_
        refine G.region ?_
        refine GL.run (j := 1) 1 [4] [(4, .int .i64 0)] (by kernel_rfl) rfl ?_
        refine GL.k rfl hK45 (fun _ _ h => h) ?_
        refine G.ret ?_
        intro F_ hF_ hM_
        refine hRet _ _ (bodyPost_1 rfl (RV.tmp rfl) ?_ F_ hF_ hM_)
        subst hzF
        subst hqF
        obtain ⟨e1, e2, e3⟩ := ct_no (q := xs.drop at_) (m := m) (by rw [hb21, decide_eq_false (by omega)]; rfl)
        rw [e1, e2, e3]
        exact ⟨at_, rfl, H43, hat, rfl⟩
  · skip
    refine G.eq (M' := [(0, pt p 0), (1, .int .u64 (m : Int)), (11, .bool true)]) (by first | (rw [hb7]; done) | (rw [hb7]; rfl)) ?_
    refine G.yes rfl ?_
    refine G.seqK fun K46 hK47 => ?_
    refine G.region ?_
    refine GL.run (j := 1) 1 [4] [(4, .int .i64 0)] (by kernel_rfl) rfl ?_
    refine GL.k rfl hK47 (fun _ _ h => h) ?_
    refine G.ret ?_
    intro F_ hF_ hM_
    refine hRet _ _ (bodyPost_1 rfl (RV.tmp rfl) ?_ F_ hF_ hM_)
    have hzT : z = true := by assumption
    subst hzT
    obtain ⟨e1, e2, e3⟩ := ct_wrongd (q := q) (m := m)
    rw [e1, e2, e3]
    exact ⟨at_, rfl, H, hat, rfl⟩
end Go.Proofs.Ytcedmbdahbdmaaa
set_option maxRecDepth 100000
namespace Go.Proofs.Ytcedmbdahbdmaaa
open Go.RowKit
def rc (fr : List UInt8) (ix sq : Nat) (kb : List UInt8) : List Value := by8 fr ++ [.int .u64 (ix : Int), .int .u64 (sq : Int), .string (strOf kb)]
def frP (v : List UInt8) (k : Nat) : List UInt8 := v.take k ++ List.replicate (32 - k) 0
section
variable {fr kb v : List UInt8} {ix sq k : Nat}
theorem rc_length (h : fr.length = 32) : (rc fr ix sq kb).length = 35 := by simp [rc, by8_length, h]
theorem rc_one : ∀ q ∈ rc fr ix sq kb, q.oneCell' = true := by
  intro q hq
  simp only [rc, List.mem_cons, List.mem_append, List.not_mem_nil, or_false] at hq
  rcases hq with h | rfl | rfl | rfl
  · exact by8_one _ q h
  · rfl
  · rfl
  · rfl
theorem rc_set (h : fr.length = 32) (j : Nat) (x : Value) : (rc fr ix sq kb).set (32 + j) x = by8 fr ++ ([.int .u64 (ix : Int), .int .u64 (sq : Int), .string (strOf kb)] : List Value).set j x := by
  rw [rc, List.set_append_right _ _ (by rw [by8_length]; omega), by8_length, h, Nat.add_sub_cancel_left]
theorem rc_ix (h : fr.length = 32) (n : Nat) : (rc fr ix sq kb).set 32 (.int .u64 (n : Int)) = rc fr n sq kb := rc_set h 0 _
theorem rc_sq (h : fr.length = 32) (n : Nat) : (rc fr ix sq kb).set 33 (.int .u64 (n : Int)) = rc fr ix n kb := rc_set h 1 _
theorem rc_kb (h : fr.length = 32) (b : List UInt8) : (rc fr ix sq kb).set 34 (.string (strOf b)) = rc fr ix sq b := rc_set h 2 _
theorem frP_length (hk : k ≤ v.length) (h : v.length = 32 ∨ v.length = 0) : (frP v k).length = 32 := by
  rw [frP, List.length_append, List.length_take, List.length_replicate]
  omega
theorem frP_end (h : v.length = 32 ∨ v.length = 0) : frP v v.length = hsh v := by
  unfold frP hsh
  rw [List.take_length]
  rcases h with h | h
  · rw [if_pos h, h]
    exact List.append_nil _
  · rw [if_neg (by omega), List.eq_nil_of_length_eq_zero h]
    rfl
theorem frP_set (hk : k < v.length) (h : v.length = 32 ∨ v.length = 0) : (frP v k).set k (v.getD k 0) = frP v (k + 1) := by
  have hl : (v.take k).length = k := by rw [List.length_take]; omega
  have hr : List.replicate (32 - k) (0 : UInt8) = 0 :: List.replicate (32 - (k + 1)) 0 := by
    rw [show 32 - k = (32 - (k + 1)) + 1 by omega]
    rfl
  rw [frP, List.set_append_right _ _ (by omega), hl, Nat.sub_self, hr, List.set_cons_zero, frP, take_byte hk]
  simp
theorem rc_byte (hk : k < v.length) (h : v.length = 32 ∨ v.length = 0) : (rc (frP v k) ix sq kb).set (0 + k * 1) (.int .u8 ((v.getD k 0).toNat : Int)) = rc (frP v (k + 1)) ix sq kb := by
  rw [Nat.zero_add, Nat.mul_one, rc, List.set_append_left _ _ (by rw [by8_length, frP_length (Nat.le_of_lt hk) h]; omega), by8_set, frP_set hk h]
  rfl
end
theorem insR_app (l : List TIn) (x : TIn) : insR (l ++ [x]) = insR l ++ x.rcells := by simp [insR]
theorem outsR_app (l : List TOut) (x : TOut) : outsR (l ++ [x]) = outsR l ++ x.rcells := by simp [outsR]
section
variable {l : List TOut} {y : TOut} {ov : Bool} {n : Nat}
theorem ov_yes (h : ov = true ↔ ∃ x ∈ l, 4611686018427387904 < x.pv) (hb : ov = true) : (true = true ↔ ∃ x ∈ l ++ [y], 4611686018427387904 < x.pv) := by
  obtain ⟨x, hx, hp⟩ := h.1 hb
  exact ⟨fun _ => ⟨x, List.mem_append_left _ hx, hp⟩, fun _ => rfl⟩
theorem ov_no (h : ov = true ↔ ∃ x ∈ l, 4611686018427387904 < x.pv) (hb : ov = false) (hn : y.pv = n) : (decide ((4611686018427387904 : Int) < (n : Int)) = true ↔ ∃ x ∈ l ++ [y], 4611686018427387904 < x.pv) := by
  rw [decide_eq_true_eq]
  constructor
  · intro hh
    exact ⟨y, List.mem_append_right _ List.mem_cons_self, by omega⟩
  · rintro ⟨x, hx, hp⟩
    rcases List.mem_append.1 hx with hx | hx
    · have := h.2 ⟨x, hx, hp⟩
      rw [hb] at this
      cases this
    · simp only [List.mem_cons, List.not_mem_nil, or_false] at hx
      subst hx
      omega
end
theorem RParse_calls (xs : List UInt8) (A : Option Addr) (n c : Nat) (w : World) (hx : RdS w A (by8 xs)) (hn : n = xs.length) (hc : xs.length ≤ c) (hb : xs.length ≤ 1000000) : Calls Try.prog 20 #[.slice A n c] w fun e w' => ∃ (v : Nat) (ins : List TIn) (A' : Option Addr) (ca : Nat) (outs : List TOut) (B' : Option Addr) (cb lt : Nat) (ok : Bool), e = .returned (.tuple #[.agg #[.int .u64 (v : Int), .int .u64 (lt : Int), .slice A' ins.length ca, .slice B' outs.length cb], .bool ok]) ∧ Hp w [] [.row A' ins.length ca 89 35 (insR ins), .row B' outs.length cb 91 2 (outsR outs)] w' ∧ ((ok = true ∧ xs = txB v ins outs lt ∧ VTx v ins outs lt) ∨ (ok = false ∧ NoTx xs)) := by
  subst hn
  refine calls_G (args := [.slice A xs.length c]) Try.func20 rfl Try.ntmps20 rfl ?_
  intro Q0 hRet hNor hPan
  have H := Hp.start w
  have H : Hp w [] [] w := H
  refine G.seqK fun K1 hK2 => ?_
  refine G.region ?_
  obtain ⟨p3, w4, r5, H6⟩ := H.alloc (P := Try.prog) 64 [.int .u64 0, .int .u64 0, .slice none 0 0, .slice none 0 0] (by kernel_rfl)
  have H6 : Hp w [] [.blk p3 [.int .u64 0, .int .u64 0, .slice none 0 0, .slice none 0 0] 64] w4 := H6
  refine GL.sem (j := 1) (r5) [0, 2] [(0, .slice A xs.length c), (2, pt p3 0)] (by kernel_rfl) (by kernel_rfl) rfl ?_
  refine GL.run (j := 2) 1 [0, 2] [(0, .slice A xs.length c), (2, pt p3 0)] (by kernel_rfl) rfl ?_
  refine GL.k rfl hK2 (fun _ _ h => h) ?_
  refine G.seqK fun K7 hK8 => ?_
  refine G.region ?_
  refine GL.run (j := 2) 2 [0, 2, 16] [(0, .slice A xs.length c), (2, pt p3 0), (16, .agg #[.slice A xs.length c, .int .i64 0, .bool false])] (by kernel_rfl) rfl ?_
  obtain ⟨p9, w10, r11, H12⟩ := H6.box (P := Try.prog) 96 [.slice A xs.length c, .int .i64 0, .bool false] (.agg #[.slice A xs.length c, .int .i64 0, .bool false]) rfl
  have H12 : Hp w [] [.blk p3 [.int .u64 0, .int .u64 0, .slice none 0 0, .slice none 0 0] 64, .blk p9 [.slice A xs.length c, .int .i64 0, .bool false] 96] w10 := H12
  refine GL.sem (j := 3) (r11) [0, 2, 17] [(0, .slice A xs.length c), (2, pt p3 0), (17, pt p9 0)] (by kernel_rfl) (by kernel_rfl) rfl ?_
  refine GL.run (j := 4) 1 [0, 2, 4] [(0, .slice A xs.length c), (2, pt p3 0), (4, pt p9 0)] (by kernel_rfl) rfl ?_
  refine GL.k rfl hK8 (fun _ _ h => h) ?_
  refine G.seqK fun K13 hK14 => ?_
  refine G.region ?_
  refine GL.run (j := 1) 1 [0, 2, 4, 18] [(0, .slice A xs.length c), (2, pt p3 0), (4, pt p9 0), (18, pt p9 0)] (by kernel_rfl) rfl ?_
  obtain ⟨z15, hz15⟩ : ∃ z_ : Bool, z_ = (!(rOK false xs 4)) := ⟨_, rfl⟩
  obtain ⟨q16, hq16⟩ : ∃ q_ : List UInt8, q_ = rR false xs 4 := ⟨_, rfl⟩
  obtain ⟨v17, hv17⟩ : ∃ v_ : List UInt8, v_ = rV false xs 4 := ⟨_, rfl⟩
  have hlv17 : v17.length ≤ 4 := by rw [hv17]; exact rV_le _ _ _
  have hbv17 : getB v17 < 4294967296 := Nat.lt_of_lt_of_le (getB_lt v17) (Nat.le_trans (Nat.pow_le_pow_right (by decide) hlv17) (by decide))
  have H24 := (Hp.reorder (L' := [.blk p9 [.slice A xs.length c, .int .i64 0, .bool false] 96, .blk p3 [.int .u64 0, .int .u64 0, .slice none 0 0, .slice none 0 0] 64]) H12 (List.Perm.trans (List.Perm.swap _ _ _) (List.Perm.refl _)))
  refine GL.call (j := 2) (CTake_calls (ids [.blk p9 [.slice A xs.length c, .int .i64 0, .bool false] 96]) p9 A xs c 0 false xs 4 w10 (Hp.startL (A := [.blk p9 [.slice A xs.length c, .int .i64 0, .bool false] 96]) (B := [.blk p3 [.int .u64 0, .int .u64 0, .slice none 0 0, .slice none 0 0] 64]) H24) ((RdO.of hx).mid (A' := [.blk p9 [.slice A xs.length c, .int .i64 0, .bool false] 96]) (B' := [.blk p3 [.int .u64 0, .int .u64 0, .slice none 0 0, .slice none 0 0] 64]) H24) ((by rfl)) (Nat.zero_le _) hc hb (by omega)) (by kernel_rfl) rfl (fun e_ w25 hR => ?_)
  obtain ⟨A18, c19, at20, rfl, H27, hC21, hat22, hqa23⟩ := hR
  simp only [← hz15, ← hq16, ← hv17] at H27 hC21 hqa23 ⊢
  have H26 : Hp w [] [.blk p9 [.slice A xs.length c, .int .i64 (at20 : Int), .bool z15] 96, .blk p3 [.int .u64 0, .int .u64 0, .slice none 0 0, .slice none 0 0] 64] w25 := Hp.callL (A := [.blk p9 [.slice A xs.length c, .int .i64 0, .bool false] 96]) (B := [.blk p3 [.int .u64 0, .int .u64 0, .slice none 0 0, .slice none 0 0] 64]) H24 H27
  refine ⟨_, rfl, [0, 2, 4, 19], [(0, .slice A xs.length c), (2, pt p3 0), (4, pt p9 0), (19, .slice A18 v17.length c19)], by kernel_rfl, ?_⟩
  refine GL.call (j := 3) (RGet_calls v17 A18 v17.length c19 w25 (hC21 _ (hx.hp H26)) (rfl) (by omega)) (by kernel_rfl) rfl (fun e_ w28 hR => ?_)
  obtain ⟨rfl, H30⟩ := hR
  have H29 : Hp w [] [.blk p9 [.slice A xs.length c, .int .i64 (at20 : Int), .bool z15] 96, .blk p3 [.int .u64 0, .int .u64 0, .slice none 0 0, .slice none 0 0] 64] w28 := H26.callNil H30
  refine ⟨_, rfl, [0, 2, 4, 20], [(0, .slice A xs.length c), (2, pt p3 0), (4, pt p9 0), (20, .int .u64 (((getB v17) : Nat) : Int))], by kernel_rfl, ?_⟩
  refine GL.run (j := 4) 1 [0, 2, 4, 21] [(0, .slice A xs.length c), (2, pt p3 0), (4, pt p9 0), (21, .agg #[.int .u64 (((getB v17) : Nat) : Int), .int .u64 0, .slice none 0 0, .slice none 0 0])] (by kernel_rfl) rfl ?_
  obtain ⟨p31, w32, r33, H34⟩ := H29.alloc (P := Try.prog) 64 [.int .u64 0, .int .u64 0, .slice none 0 0, .slice none 0 0] (by kernel_rfl)
  have H34 : Hp w [] [.blk p9 [.slice A xs.length c, .int .i64 (at20 : Int), .bool z15] 96, .blk p3 [.int .u64 0, .int .u64 0, .slice none 0 0, .slice none 0 0] 64, .blk p31 [.int .u64 0, .int .u64 0, .slice none 0 0, .slice none 0 0] 64] w32 := H34
  refine GL.sem (j := 5) (r33) [0, 2, 4, 5, 21] [(0, .slice A xs.length c), (2, pt p3 0), (4, pt p9 0), (5, pt p31 0), (21, .agg #[.int .u64 (((getB v17) : Nat) : Int), .int .u64 0, .slice none 0 0, .slice none 0 0])] (by kernel_rfl) (by kernel_rfl) rfl ?_
  obtain ⟨w35, r36, H37⟩ := H34.stA (P := Try.prog) (o := 0) (vs := [.int .u64 (((getB v17) : Nat) : Int), .int .u64 0, .slice none 0 0, .slice none 0 0]) (ty := 64) (m := 4) 2 rfl (by kernel_rfl) rfl (by simp) (by simp [Value.oneCell'])
  have H37 : Hp w [] [.blk p9 [.slice A xs.length c, .int .i64 (at20 : Int), .bool z15] 96, .blk p3 [.int .u64 0, .int .u64 0, .slice none 0 0, .slice none 0 0] 64, .blk p31 [.int .u64 (((getB v17) : Nat) : Int), .int .u64 0, .slice none 0 0, .slice none 0 0] 64] w35 := H37
  refine GL.semU (j := 6) r36 [0, 2, 4, 5] [(0, .slice A xs.length c), (2, pt p3 0), (4, pt p9 0), (5, pt p31 0)] (by kernel_rfl) rfl rfl rfl ?_
  refine GL.k rfl hK14 (fun _ _ h => h) ?_
  refine G.seqK fun K38 hK39 => ?_
  refine G.region ?_
  refine GL.run (j := 1) 1 [0, 2, 4, 5, 22] [(0, .slice A xs.length c), (2, pt p3 0), (4, pt p9 0), (5, pt p31 0), (22, pt p9 0)] (by kernel_rfl) rfl ?_
  obtain ⟨z40, hz40⟩ : ∃ z_ : Bool, z_ = (!(ctOK z15 q16 64)) := ⟨_, rfl⟩
  obtain ⟨q41, hq41⟩ : ∃ q_ : List UInt8, q_ = ctR z15 q16 64 := ⟨_, rfl⟩
  obtain ⟨n42, hn42⟩ : ∃ v_ : Nat, v_ = ctV z15 q16 64 := ⟨_, rfl⟩
  have hln42 : n42 ≤ 64 := by rw [hn42]; exact ctV_le _ _ _
  refine GL.call (j := 2) (CCount_calls (ids [.blk p9 [.slice A xs.length c, .int .i64 (at20 : Int), .bool z15] 96]) p9 A xs c at20 z15 q16 64 w35 (Hp.startL (A := [.blk p9 [.slice A xs.length c, .int .i64 (at20 : Int), .bool z15] 96]) (B := [.blk p3 [.int .u64 0, .int .u64 0, .slice none 0 0, .slice none 0 0] 64, .blk p31 [.int .u64 (((getB v17) : Nat) : Int), .int .u64 0, .slice none 0 0, .slice none 0 0] 64]) H37) ((RdO.of hx).mid (A' := [.blk p9 [.slice A xs.length c, .int .i64 (at20 : Int), .bool z15] 96]) (B' := [.blk p3 [.int .u64 0, .int .u64 0, .slice none 0 0, .slice none 0 0] 64, .blk p31 [.int .u64 (((getB v17) : Nat) : Int), .int .u64 0, .slice none 0 0, .slice none 0 0] 64]) H37) (hqa23) (hat22) hc hb (by decide)) (by kernel_rfl) rfl (fun e_ w46 hR => ?_)
  obtain ⟨at43, rfl, H48, hat44, hqa45⟩ := hR
  simp only [← hz40, ← hq41, ← hn42] at H48 hqa45 ⊢
  have H47 : Hp w [] [.blk p9 [.slice A xs.length c, .int .i64 (at43 : Int), .bool z40] 96, .blk p3 [.int .u64 0, .int .u64 0, .slice none 0 0, .slice none 0 0] 64, .blk p31 [.int .u64 (((getB v17) : Nat) : Int), .int .u64 0, .slice none 0 0, .slice none 0 0] 64] w46 := Hp.callL (A := [.blk p9 [.slice A xs.length c, .int .i64 (at20 : Int), .bool z15] 96]) (B := [.blk p3 [.int .u64 0, .int .u64 0, .slice none 0 0, .slice none 0 0] 64, .blk p31 [.int .u64 (((getB v17) : Nat) : Int), .int .u64 0, .slice none 0 0, .slice none 0 0] 64]) H37 H48
  refine ⟨_, rfl, [0, 2, 4, 5, 23], [(0, .slice A xs.length c), (2, pt p3 0), (4, pt p9 0), (5, pt p31 0), (23, .int .i64 (n42 : Int))], by kernel_rfl, ?_⟩
  refine GL.run (j := 3) 1 [0, 2, 4, 5, 6] [(0, .slice A xs.length c), (2, pt p3 0), (4, pt p9 0), (5, pt p31 0), (6, .int .i64 (n42 : Int))] (by kernel_rfl) rfl ?_
  refine GL.k rfl hK39 (fun _ _ h => h) ?_
  refine G.seqJ (X := Bool × List UInt8 × Nat × Option Addr × Nat × List TIn) (fun ⟨zi_, qi_, ati_, Ai_, ci_, ins⟩ => [(0, .slice A xs.length c), (2, pt p3 0), (4, pt p9 0), (5, pt p31 0), (6, .int .i64 (n42 : Int))]) (fun ⟨zi_, qi_, ati_, Ai_, ci_, ins⟩ w_ => (LDn TIn.bytes VIn (fun _ => 0) n42 z40 q41 zi_ qi_ ins ∧ (∀ x ∈ ins, VIn x) ∧ qi_ = (if zi_ then [] else xs.drop ati_) ∧ ati_ ≤ xs.length) ∧ Hp w [] [.blk p9 [.slice A xs.length c, .int .i64 (ati_ : Int), .bool zi_] 96, .blk p3 [.int .u64 0, .int .u64 0, .slice none 0 0, .slice none 0 0] 64, .blk p31 [.int .u64 (((getB v17) : Nat) : Int), .int .u64 0, .slice Ai_ ins.length ci_, .slice none 0 0] 64, .row Ai_ ins.length ci_ 89 35 (insR ins)] w_) (fun J49 K50 hK51 => ?_) ?_
  · skip
    refine G.seqK fun K52 hK53 => ?_
    refine G.region ?_
    refine GL.run (j := 1) 1 [0, 2, 4, 5, 6, 7] [(0, .slice A xs.length c), (2, pt p3 0), (4, pt p9 0), (5, pt p31 0), (6, .int .i64 (n42 : Int)), (7, .int .i64 0)] (by kernel_rfl) rfl ?_
    refine GL.k rfl hK53 (fun _ _ h => h) ?_
    refine G.block ?_
    have H54 := H47.rowNil 89 35
    have H54 : Hp w [] [.blk p9 [.slice A xs.length c, .int .i64 (at43 : Int), .bool z40] 96, .blk p3 [.int .u64 0, .int .u64 0, .slice none 0 0, .slice none 0 0] 64, .blk p31 [.int .u64 (((getB v17) : Nat) : Int), .int .u64 0, .slice none 0 0, .slice none 0 0] 64, .row none 0 0 89 35 (insR ([] : List TIn))] w46 := H54
    have hi64 : n42 ≤ 64 := hln42
    refine G.fit [0, 2, 4, 5, 6, 7] (M' := [(0, .slice A xs.length c), (2, pt p3 0), (4, pt p9 0), (5, pt p31 0), (6, .int .i64 (n42 : Int)), (7, .int .i64 0)]) (by kernel_rfl) ?_
    refine G.loop (X := Nat × Bool × List UInt8 × Nat × Option Addr × Nat × List TIn) (fun ⟨ki, zi, qi, ati, Ai, ci, ins⟩ => [(0, .slice A xs.length c), (2, pt p3 0), (4, pt p9 0), (5, pt p31 0), (6, .int .i64 (n42 : Int)), (7, .int .i64 (ki : Int))]) (fun ⟨ki, zi, qi, ati, Ai, ci, ins⟩ w_ => ((ki ≤ n42 ∧ LOf TIn.bytes VIn (fun _ => 0) n42 z40 q41 ki zi qi ins) ∧ (∀ x ∈ ins, VIn x) ∧ qi = (if zi then [] else xs.drop ati) ∧ ati ≤ xs.length) ∧ Hp w [] [.blk p9 [.slice A xs.length c, .int .i64 (ati : Int), .bool zi] 96, .blk p3 [.int .u64 0, .int .u64 0, .slice none 0 0, .slice none 0 0] 64, .blk p31 [.int .u64 (((getB v17) : Nat) : Int), .int .u64 0, .slice Ai ki ci, .slice none 0 0] 64, .row Ai ki ci 89 35 (insR ins)] w_) (fun ⟨ki, zi, qi, ati, Ai, ci, ins⟩ => n42 - ki) ⟨0, z40, q41, at43, none, 0, ([] : List TIn)⟩ [0, 2, 4, 5, 6, 7] (by kernel_rfl) ⟨⟨⟨Nat.zero_le _, LOf.zero⟩, (fun x_ h_ => by simp at h_), hqa45, hat44⟩, H54⟩ ?_
    rintro ⟨ki, zi, qi, ati, Ai, ci, ins⟩ w55 ⟨hi56, H57⟩
    refine G.eq (M' := [(0, .slice A xs.length c), (2, pt p3 0), (4, pt p9 0), (5, pt p31 0), (6, .int .i64 (n42 : Int)), (7, .int .i64 (ki : Int))]) rfl ?_
    have H57 : Hp w [] [.blk p9 [.slice A xs.length c, .int .i64 (ati : Int), .bool zi] 96, .blk p3 [.int .u64 0, .int .u64 0, .slice none 0 0, .slice none 0 0] 64, .blk p31 [.int .u64 (((getB v17) : Nat) : Int), .int .u64 0, .slice Ai ki ci, .slice none 0 0] 64, .row Ai ki ci 89 35 (insR ins)] w55 := H57
    obtain ⟨⟨hin, hiL⟩, hiV, hiq, hiat⟩ := hi56
    have hiLl := hiL.1
    refine G.seqK fun K58 hK59 => ?_
    refine G.seqK fun K60 hK61 => ?_
    refine G.region ?_
    refine GL.run (j := 4) 4 [0, 2, 4, 5, 6, 7, 27] [(0, .slice A xs.length c), (2, pt p3 0), (4, pt p9 0), (5, pt p31 0), (6, .int .i64 (n42 : Int)), (7, .int .i64 (ki : Int)), (27, .bool (decide ((ki : Int) < (n42 : Int))))] (by kernel_rfl) rfl ?_
    cases hb62 : (decide ((ki : Int) < (n42 : Int)))
    · skip
      have hb62f := of_decide_eq_false hb62
      refine GL.run (j := 10) 6 [0, 2, 4, 5, 6, 7, 33] [(0, .slice A xs.length c), (2, pt p3 0), (4, pt p9 0), (5, pt p31 0), (6, .int .i64 (n42 : Int)), (7, .int .i64 (ki : Int)), (33, .bool false)] (by kernel_rfl) rfl ?_
      refine GL.k rfl hK61 (fun _ _ h => h) ?_
      refine G.no rfl ?_
      refine G.exitK hK51 (fun _ _ h => h) ?_
      subst hiLl
      have hdn := hiL.done (.inl (by omega))
      refine G.fit [0, 2, 4, 5, 6] (M' := [(0, .slice A xs.length c), (2, pt p3 0), (4, pt p9 0), (5, pt p31 0), (6, .int .i64 (n42 : Int))]) (by kernel_rfl) ?_
      exact J49 ⟨zi, qi, ati, Ai, ci, ins⟩ _ ⟨⟨hdn, hiV, hiq, hiat⟩, H57⟩
    · skip
      have hb62f := of_decide_eq_true hb62
      refine GL.run (j := 7) 3 [0, 2, 4, 5, 6, 7, 27, 30] [(0, .slice A xs.length c), (2, pt p3 0), (4, pt p9 0), (5, pt p31 0), (6, .int .i64 (n42 : Int)), (7, .int .i64 (ki : Int)), (27, .bool true), (30, pt p9 2)] (by kernel_rfl) rfl ?_
      refine GL.sem (j := 8) (H57.ld (o := 2) (ty := 4) (v := .bool zi) 0 rfl (by kernel_rfl) rfl) [0, 2, 4, 5, 6, 7, 27, 31] [(0, .slice A xs.length c), (2, pt p3 0), (4, pt p9 0), (5, pt p31 0), (6, .int .i64 (n42 : Int)), (7, .int .i64 (ki : Int)), (27, .bool true), (31, .bool zi)] (by kernel_rfl) (by kernel_rfl) rfl ?_
      refine GL.run (j := 10) 2 [0, 2, 4, 5, 6, 7, 33] [(0, .slice A xs.length c), (2, pt p3 0), (4, pt p9 0), (5, pt p31 0), (6, .int .i64 (n42 : Int)), (7, .int .i64 (ki : Int)), (33, .bool (!zi))] (by kernel_rfl) rfl ?_
      refine GL.k rfl hK61 (fun _ _ h => h) ?_
      rcases (Bool.eq_false_or_eq_true zi).symm with hb63 | hb63
      · skip
        refine G.eq (M' := [(0, .slice A xs.length c), (2, pt p3 0), (4, pt p9 0), (5, pt p31 0), (6, .int .i64 (n42 : Int)), (7, .int .i64 (ki : Int)), (33, .bool true)]) (by first | (rw [hb63]; done) | (rw [hb63]; rfl)) ?_
        refine G.yes rfl ?_
        refine G.skipK hK59 (fun _ _ h => h) ?_
        refine G.seqK fun K64 hK65 => ?_
        refine G.block ?_
        refine G.seqK fun K66 hK67 => ?_
        refine G.region ?_
        refine GL.run (j := 1) 1 [0, 2, 4, 5, 6, 7, 36] [(0, .slice A xs.length c), (2, pt p3 0), (4, pt p9 0), (5, pt p31 0), (6, .int .i64 (n42 : Int)), (7, .int .i64 (ki : Int)), (36, .agg (rc (List.replicate 32 0) 0 0 []).toArray)] (by kernel_rfl) rfl ?_
        obtain ⟨p68, w69, r70, H71⟩ := H57.alloc (P := Try.prog) 89 (rc (List.replicate 32 0) 0 0 []) (by kernel_rfl)
        have H71 : Hp w [] [.blk p9 [.slice A xs.length c, .int .i64 (ati : Int), .bool zi] 96, .blk p3 [.int .u64 0, .int .u64 0, .slice none 0 0, .slice none 0 0] 64, .blk p31 [.int .u64 (((getB v17) : Nat) : Int), .int .u64 0, .slice Ai ki ci, .slice none 0 0] 64, .row Ai ki ci 89 35 (insR ins), .blk p68 (rc (List.replicate 32 0) 0 0 []) 89] w69 := H71
        refine GL.sem (j := 2) (r70) [0, 2, 4, 5, 6, 7, 8, 36] [(0, .slice A xs.length c), (2, pt p3 0), (4, pt p9 0), (5, pt p31 0), (6, .int .i64 (n42 : Int)), (7, .int .i64 (ki : Int)), (8, pt p68 0), (36, .agg (rc (List.replicate 32 0) 0 0 []).toArray)] (by kernel_rfl) (by kernel_rfl) rfl ?_
        obtain ⟨w72, r73, H74⟩ := H71.stA (P := Try.prog) (o := 0) (vs := rc (List.replicate 32 0) 0 0 []) (ty := 89) (m := 35) 4 rfl (by kernel_rfl) (rc_length rfl) (by rw [Nat.zero_add, rc_length rfl]; exact Nat.le_refl _) rc_one
        rw [tx_whole (rc_length rfl)] at H74
        have H74 : Hp w [] [.blk p9 [.slice A xs.length c, .int .i64 (ati : Int), .bool zi] 96, .blk p3 [.int .u64 0, .int .u64 0, .slice none 0 0, .slice none 0 0] 64, .blk p31 [.int .u64 (((getB v17) : Nat) : Int), .int .u64 0, .slice Ai ki ci, .slice none 0 0] 64, .row Ai ki ci 89 35 (insR ins), .blk p68 (rc (List.replicate 32 0) 0 0 []) 89] w72 := H74
        refine GL.semU (j := 3) r73 [0, 2, 4, 5, 6, 7, 8] [(0, .slice A xs.length c), (2, pt p3 0), (4, pt p9 0), (5, pt p31 0), (6, .int .i64 (n42 : Int)), (7, .int .i64 (ki : Int)), (8, pt p68 0)] (by kernel_rfl) rfl rfl rfl ?_
        refine GL.k rfl hK67 (fun _ _ h => h) ?_
        refine G.seqK fun K75 hK76 => ?_
        refine G.region ?_
        refine GL.run (j := 1) 1 [0, 2, 4, 5, 6, 7, 8, 37] [(0, .slice A xs.length c), (2, pt p3 0), (4, pt p9 0), (5, pt p31 0), (6, .int .i64 (n42 : Int)), (7, .int .i64 (ki : Int)), (8, pt p68 0), (37, pt p9 0)] (by kernel_rfl) rfl ?_
        obtain ⟨z77, hz77⟩ : ∃ z_ : Bool, z_ = (!(rOK zi qi 32)) := ⟨_, rfl⟩
        obtain ⟨q78, hq78⟩ : ∃ q_ : List UInt8, q_ = rR zi qi 32 := ⟨_, rfl⟩
        obtain ⟨v79, hv79⟩ : ∃ v_ : List UInt8, v_ = rV zi qi 32 := ⟨_, rfl⟩
        have hlv79 : v79.length ≤ 32 := by rw [hv79]; exact rV_le _ _ _
        have hov79 : v79.length = 32 ∨ v79.length = 0 := by rw [hv79]; exact rV_or _ _ _
        refine GL.call (j := 2) (CTake_calls (ids [.blk p9 [.slice A xs.length c, .int .i64 (ati : Int), .bool zi] 96]) p9 A xs c ati zi qi 32 w72 (Hp.startL (A := [.blk p9 [.slice A xs.length c, .int .i64 (ati : Int), .bool zi] 96]) (B := [.blk p3 [.int .u64 0, .int .u64 0, .slice none 0 0, .slice none 0 0] 64, .blk p31 [.int .u64 (((getB v17) : Nat) : Int), .int .u64 0, .slice Ai ki ci, .slice none 0 0] 64, .row Ai ki ci 89 35 (insR ins), .blk p68 (rc (List.replicate 32 0) 0 0 []) 89]) H74) ((RdO.of hx).mid (A' := [.blk p9 [.slice A xs.length c, .int .i64 (ati : Int), .bool zi] 96]) (B' := [.blk p3 [.int .u64 0, .int .u64 0, .slice none 0 0, .slice none 0 0] 64, .blk p31 [.int .u64 (((getB v17) : Nat) : Int), .int .u64 0, .slice Ai ki ci, .slice none 0 0] 64, .row Ai ki ci 89 35 (insR ins), .blk p68 (rc (List.replicate 32 0) 0 0 []) 89]) H74) (hiq) (hiat) hc hb (by omega)) (by kernel_rfl) rfl (fun e_ w86 hR => ?_)
        obtain ⟨A80, c81, at82, rfl, H88, hC83, hat84, hqa85⟩ := hR
        simp only [← hz77, ← hq78, ← hv79] at H88 hC83 hqa85 ⊢
        have H87 : Hp w [] [.blk p9 [.slice A xs.length c, .int .i64 (at82 : Int), .bool z77] 96, .blk p3 [.int .u64 0, .int .u64 0, .slice none 0 0, .slice none 0 0] 64, .blk p31 [.int .u64 (((getB v17) : Nat) : Int), .int .u64 0, .slice Ai ki ci, .slice none 0 0] 64, .row Ai ki ci 89 35 (insR ins), .blk p68 (rc (List.replicate 32 0) 0 0 []) 89] w86 := Hp.callL (A := [.blk p9 [.slice A xs.length c, .int .i64 (ati : Int), .bool zi] 96]) (B := [.blk p3 [.int .u64 0, .int .u64 0, .slice none 0 0, .slice none 0 0] 64, .blk p31 [.int .u64 (((getB v17) : Nat) : Int), .int .u64 0, .slice Ai ki ci, .slice none 0 0] 64, .row Ai ki ci 89 35 (insR ins), .blk p68 (rc (List.replicate 32 0) 0 0 []) 89]) H74 H88
        refine ⟨_, rfl, [0, 2, 4, 5, 6, 7, 8, 38], [(0, .slice A xs.length c), (2, pt p3 0), (4, pt p9 0), (5, pt p31 0), (6, .int .i64 (n42 : Int)), (7, .int .i64 (ki : Int)), (8, pt p68 0), (38, .slice A80 v79.length c81)], by kernel_rfl, ?_⟩
        refine GL.run (j := 3) 1 [0, 2, 4, 5, 6, 7, 8, 9] [(0, .slice A xs.length c), (2, pt p3 0), (4, pt p9 0), (5, pt p31 0), (6, .int .i64 (n42 : Int)), (7, .int .i64 (ki : Int)), (8, pt p68 0), (9, .slice A80 v79.length c81)] (by kernel_rfl) rfl ?_
        refine GL.k rfl hK76 (fun _ _ h => h) ?_
        refine G.seqK fun K89 hK90 => ?_
        refine G.seqK fun K91 hK92 => ?_
        refine G.region ?_
        refine GL.run (j := 3) 3 [0, 2, 4, 5, 6, 7, 8, 9, 40, 41] [(0, .slice A xs.length c), (2, pt p3 0), (4, pt p9 0), (5, pt p31 0), (6, .int .i64 (n42 : Int)), (7, .int .i64 (ki : Int)), (8, pt p68 0), (9, .slice A80 v79.length c81), (40, .int .i64 (v79.length : Int)), (41, .int .i64 0)] (by kernel_rfl) rfl ?_
        refine GL.k rfl hK92 (fun _ _ h => h) ?_
        refine G.block ?_
        have H93 : Hp w [] [.blk p9 [.slice A xs.length c, .int .i64 (at82 : Int), .bool z77] 96, .blk p3 [.int .u64 0, .int .u64 0, .slice none 0 0, .slice none 0 0] 64, .blk p31 [.int .u64 (((getB v17) : Nat) : Int), .int .u64 0, .slice Ai ki ci, .slice none 0 0] 64, .row Ai ki ci 89 35 (insR ins), .blk p68 (rc (frP v79 0) 0 0 []) 89] w86 := H87
        refine G.fit [0, 2, 4, 5, 6, 7, 8, 9, 40, 41] (M' := [(0, .slice A xs.length c), (2, pt p3 0), (4, pt p9 0), (5, pt p31 0), (6, .int .i64 (n42 : Int)), (7, .int .i64 (ki : Int)), (8, pt p68 0), (9, .slice A80 v79.length c81), (40, .int .i64 (v79.length : Int)), (41, .int .i64 0)]) (by kernel_rfl) ?_
        refine G.loop (X := Nat) (fun kk => [(0, .slice A xs.length c), (2, pt p3 0), (4, pt p9 0), (5, pt p31 0), (6, .int .i64 (n42 : Int)), (7, .int .i64 (ki : Int)), (8, pt p68 0), (9, .slice A80 v79.length c81), (40, .int .i64 (v79.length : Int)), (41, .int .i64 (kk : Int))]) (fun kk w_ => (kk ≤ v79.length) ∧ Hp w [] [.blk p9 [.slice A xs.length c, .int .i64 (at82 : Int), .bool z77] 96, .blk p3 [.int .u64 0, .int .u64 0, .slice none 0 0, .slice none 0 0] 64, .blk p31 [.int .u64 (((getB v17) : Nat) : Int), .int .u64 0, .slice Ai ki ci, .slice none 0 0] 64, .row Ai ki ci 89 35 (insR ins), .blk p68 (rc (frP v79 kk) 0 0 []) 89] w_) (fun kk => v79.length - kk) 0 [0, 2, 4, 5, 6, 7, 8, 9, 40, 41] (by kernel_rfl) ⟨Nat.zero_le _, H93⟩ ?_
        rintro kk w94 ⟨hi95, H96⟩
        refine G.eq (M' := [(0, .slice A xs.length c), (2, pt p3 0), (4, pt p9 0), (5, pt p31 0), (6, .int .i64 (n42 : Int)), (7, .int .i64 (ki : Int)), (8, pt p68 0), (9, .slice A80 v79.length c81), (40, .int .i64 (v79.length : Int)), (41, .int .i64 (kk : Int))]) rfl ?_
        have H96 : Hp w [] [.blk p9 [.slice A xs.length c, .int .i64 (at82 : Int), .bool z77] 96, .blk p3 [.int .u64 0, .int .u64 0, .slice none 0 0, .slice none 0 0] 64, .blk p31 [.int .u64 (((getB v17) : Nat) : Int), .int .u64 0, .slice Ai ki ci, .slice none 0 0] 64, .row Ai ki ci 89 35 (insR ins), .blk p68 (rc (frP v79 kk) 0 0 []) 89] w94 := H96
        have hkk := hi95
        refine G.seqK fun K97 hK98 => ?_
        refine G.region ?_
        refine GL.run (j := 1) 1 [0, 2, 4, 5, 6, 7, 8, 9, 40, 41, 42] [(0, .slice A xs.length c), (2, pt p3 0), (4, pt p9 0), (5, pt p31 0), (6, .int .i64 (n42 : Int)), (7, .int .i64 (ki : Int)), (8, pt p68 0), (9, .slice A80 v79.length c81), (40, .int .i64 (v79.length : Int)), (41, .int .i64 (kk : Int)), (42, .bool (decide ((kk : Int) < (v79.length : Int))))] (by kernel_rfl) rfl ?_
        refine GL.k rfl hK98 (fun _ _ h => h) ?_
        refine G.seqK fun K99 hK100 => ?_
        cases hb101 : (decide ((kk : Int) < (v79.length : Int)))
        · skip
          have hb101f := of_decide_eq_false hb101
          obtain rfl : kk = v79.length := by omega
          have H102 : Hp w [] [.blk p9 [.slice A xs.length c, .int .i64 (at82 : Int), .bool z77] 96, .blk p3 [.int .u64 0, .int .u64 0, .slice none 0 0, .slice none 0 0] 64, .blk p31 [.int .u64 (((getB v17) : Nat) : Int), .int .u64 0, .slice Ai ki ci, .slice none 0 0] 64, .row Ai ki ci 89 35 (insR ins), .blk p68 (rc (hsh v79) 0 0 []) 89] w94 := (by have h_ := H96; rw [frP_end hov79] at h_; exact h_)
          refine G.no rfl ?_
          refine G.exitK hK90 (fun _ _ h => h) ?_
          refine G.seqK fun K103 hK104 => ?_
          refine G.region ?_
          refine GL.run (j := 1) 1 [0, 2, 4, 5, 6, 7, 8, 52] [(0, .slice A xs.length c), (2, pt p3 0), (4, pt p9 0), (5, pt p31 0), (6, .int .i64 (n42 : Int)), (7, .int .i64 (ki : Int)), (8, pt p68 0), (52, pt p9 0)] (by kernel_rfl) rfl ?_
          obtain ⟨z105, hz105⟩ : ∃ z_ : Bool, z_ = (!(rOK z77 q78 4)) := ⟨_, rfl⟩
          obtain ⟨q106, hq106⟩ : ∃ q_ : List UInt8, q_ = rR z77 q78 4 := ⟨_, rfl⟩
          obtain ⟨v107, hv107⟩ : ∃ v_ : List UInt8, v_ = rV z77 q78 4 := ⟨_, rfl⟩
          have hlv107 : v107.length ≤ 4 := by rw [hv107]; exact rV_le _ _ _
          have hbv107 : getB v107 < 4294967296 := Nat.lt_of_lt_of_le (getB_lt v107) (Nat.le_trans (Nat.pow_le_pow_right (by decide) hlv107) (by decide))
          refine GL.call (j := 2) (CTake_calls (ids [.blk p9 [.slice A xs.length c, .int .i64 (at82 : Int), .bool z77] 96]) p9 A xs c at82 z77 q78 4 w94 (Hp.startL (A := [.blk p9 [.slice A xs.length c, .int .i64 (at82 : Int), .bool z77] 96]) (B := [.blk p3 [.int .u64 0, .int .u64 0, .slice none 0 0, .slice none 0 0] 64, .blk p31 [.int .u64 (((getB v17) : Nat) : Int), .int .u64 0, .slice Ai ki ci, .slice none 0 0] 64, .row Ai ki ci 89 35 (insR ins), .blk p68 (rc (hsh v79) 0 0 []) 89]) H102) ((RdO.of hx).mid (A' := [.blk p9 [.slice A xs.length c, .int .i64 (at82 : Int), .bool z77] 96]) (B' := [.blk p3 [.int .u64 0, .int .u64 0, .slice none 0 0, .slice none 0 0] 64, .blk p31 [.int .u64 (((getB v17) : Nat) : Int), .int .u64 0, .slice Ai ki ci, .slice none 0 0] 64, .row Ai ki ci 89 35 (insR ins), .blk p68 (rc (hsh v79) 0 0 []) 89]) H102) (hqa85) (hat84) hc hb (by omega)) (by kernel_rfl) rfl (fun e_ w114 hR => ?_)
          obtain ⟨A108, c109, at110, rfl, H116, hC111, hat112, hqa113⟩ := hR
          simp only [← hz105, ← hq106, ← hv107] at H116 hC111 hqa113 ⊢
          have H115 : Hp w [] [.blk p9 [.slice A xs.length c, .int .i64 (at110 : Int), .bool z105] 96, .blk p3 [.int .u64 0, .int .u64 0, .slice none 0 0, .slice none 0 0] 64, .blk p31 [.int .u64 (((getB v17) : Nat) : Int), .int .u64 0, .slice Ai ki ci, .slice none 0 0] 64, .row Ai ki ci 89 35 (insR ins), .blk p68 (rc (hsh v79) 0 0 []) 89] w114 := Hp.callL (A := [.blk p9 [.slice A xs.length c, .int .i64 (at82 : Int), .bool z77] 96]) (B := [.blk p3 [.int .u64 0, .int .u64 0, .slice none 0 0, .slice none 0 0] 64, .blk p31 [.int .u64 (((getB v17) : Nat) : Int), .int .u64 0, .slice Ai ki ci, .slice none 0 0] 64, .row Ai ki ci 89 35 (insR ins), .blk p68 (rc (hsh v79) 0 0 []) 89]) H102 H116
          refine ⟨_, rfl, [0, 2, 4, 5, 6, 7, 8, 53], [(0, .slice A xs.length c), (2, pt p3 0), (4, pt p9 0), (5, pt p31 0), (6, .int .i64 (n42 : Int)), (7, .int .i64 (ki : Int)), (8, pt p68 0), (53, .slice A108 v107.length c109)], by kernel_rfl, ?_⟩
          refine GL.call (j := 3) (RGet_calls v107 A108 v107.length c109 w114 (hC111 _ (hx.hp H115)) (rfl) (by omega)) (by kernel_rfl) rfl (fun e_ w117 hR => ?_)
          obtain ⟨rfl, H119⟩ := hR
          have H118 : Hp w [] [.blk p9 [.slice A xs.length c, .int .i64 (at110 : Int), .bool z105] 96, .blk p3 [.int .u64 0, .int .u64 0, .slice none 0 0, .slice none 0 0] 64, .blk p31 [.int .u64 (((getB v17) : Nat) : Int), .int .u64 0, .slice Ai ki ci, .slice none 0 0] 64, .row Ai ki ci 89 35 (insR ins), .blk p68 (rc (hsh v79) 0 0 []) 89] w117 := H115.callNil H119
          refine ⟨_, rfl, [0, 2, 4, 5, 6, 7, 8, 54], [(0, .slice A xs.length c), (2, pt p3 0), (4, pt p9 0), (5, pt p31 0), (6, .int .i64 (n42 : Int)), (7, .int .i64 (ki : Int)), (8, pt p68 0), (54, .int .u64 (((getB v107) : Nat) : Int))], by kernel_rfl, ?_⟩
          refine GL.run (j := 4) 1 [0, 2, 4, 5, 6, 7, 8, 54, 55] [(0, .slice A xs.length c), (2, pt p3 0), (4, pt p9 0), (5, pt p31 0), (6, .int .i64 (n42 : Int)), (7, .int .i64 (ki : Int)), (8, pt p68 0), (54, .int .u64 (((getB v107) : Nat) : Int)), (55, pt p68 32)] (by kernel_rfl) rfl ?_
          obtain ⟨w120, r121, H122⟩ := H118.st (P := Try.prog) (o := 32) (ty := 31) (v := .int .u64 (((getB v107) : Nat) : Int)) 4 rfl (by kernel_rfl) (by rw [rc_length (hsh_length _)]; omega) rfl
          rw [rc_ix (hsh_length _)] at H122
          have H122 : Hp w [] [.blk p9 [.slice A xs.length c, .int .i64 (at110 : Int), .bool z105] 96, .blk p3 [.int .u64 0, .int .u64 0, .slice none 0 0, .slice none 0 0] 64, .blk p31 [.int .u64 (((getB v17) : Nat) : Int), .int .u64 0, .slice Ai ki ci, .slice none 0 0] 64, .row Ai ki ci 89 35 (insR ins), .blk p68 (rc (hsh v79) (getB v107) 0 []) 89] w120 := H122
          refine GL.semU (j := 5) r121 [0, 2, 4, 5, 6, 7, 8] [(0, .slice A xs.length c), (2, pt p3 0), (4, pt p9 0), (5, pt p31 0), (6, .int .i64 (n42 : Int)), (7, .int .i64 (ki : Int)), (8, pt p68 0)] (by kernel_rfl) rfl rfl rfl ?_
          refine GL.k rfl hK104 (fun _ _ h => h) ?_
          refine G.seqK fun K123 hK124 => ?_
          refine G.region ?_
          refine GL.run (j := 2) 2 [0, 2, 4, 5, 6, 7, 8, 56, 57] [(0, .slice A xs.length c), (2, pt p3 0), (4, pt p9 0), (5, pt p31 0), (6, .int .i64 (n42 : Int)), (7, .int .i64 (ki : Int)), (8, pt p68 0), (56, pt p9 0), (57, pt p9 0)] (by kernel_rfl) rfl ?_
          obtain ⟨z125, hz125⟩ : ∃ z_ : Bool, z_ = (!(ctOK z105 q106 520)) := ⟨_, rfl⟩
          obtain ⟨q126, hq126⟩ : ∃ q_ : List UInt8, q_ = ctR z105 q106 520 := ⟨_, rfl⟩
          obtain ⟨n127, hn127⟩ : ∃ v_ : Nat, v_ = ctV z105 q106 520 := ⟨_, rfl⟩
          have hln127 : n127 ≤ 520 := by rw [hn127]; exact ctV_le _ _ _
          refine GL.call (j := 3) (CCount_calls (ids [.blk p9 [.slice A xs.length c, .int .i64 (at110 : Int), .bool z105] 96]) p9 A xs c at110 z105 q106 520 w120 (Hp.startL (A := [.blk p9 [.slice A xs.length c, .int .i64 (at110 : Int), .bool z105] 96]) (B := [.blk p3 [.int .u64 0, .int .u64 0, .slice none 0 0, .slice none 0 0] 64, .blk p31 [.int .u64 (((getB v17) : Nat) : Int), .int .u64 0, .slice Ai ki ci, .slice none 0 0] 64, .row Ai ki ci 89 35 (insR ins), .blk p68 (rc (hsh v79) (getB v107) 0 []) 89]) H122) ((RdO.of hx).mid (A' := [.blk p9 [.slice A xs.length c, .int .i64 (at110 : Int), .bool z105] 96]) (B' := [.blk p3 [.int .u64 0, .int .u64 0, .slice none 0 0, .slice none 0 0] 64, .blk p31 [.int .u64 (((getB v17) : Nat) : Int), .int .u64 0, .slice Ai ki ci, .slice none 0 0] 64, .row Ai ki ci 89 35 (insR ins), .blk p68 (rc (hsh v79) (getB v107) 0 []) 89]) H122) (hqa113) (hat112) hc hb (by decide)) (by kernel_rfl) rfl (fun e_ w131 hR => ?_)
          obtain ⟨at128, rfl, H133, hat129, hqa130⟩ := hR
          simp only [← hz125, ← hq126, ← hn127] at H133 hqa130 ⊢
          have H132 : Hp w [] [.blk p9 [.slice A xs.length c, .int .i64 (at128 : Int), .bool z125] 96, .blk p3 [.int .u64 0, .int .u64 0, .slice none 0 0, .slice none 0 0] 64, .blk p31 [.int .u64 (((getB v17) : Nat) : Int), .int .u64 0, .slice Ai ki ci, .slice none 0 0] 64, .row Ai ki ci 89 35 (insR ins), .blk p68 (rc (hsh v79) (getB v107) 0 []) 89] w131 := Hp.callL (A := [.blk p9 [.slice A xs.length c, .int .i64 (at110 : Int), .bool z105] 96]) (B := [.blk p3 [.int .u64 0, .int .u64 0, .slice none 0 0, .slice none 0 0] 64, .blk p31 [.int .u64 (((getB v17) : Nat) : Int), .int .u64 0, .slice Ai ki ci, .slice none 0 0] 64, .row Ai ki ci 89 35 (insR ins), .blk p68 (rc (hsh v79) (getB v107) 0 []) 89]) H122 H133
          refine ⟨_, rfl, [0, 2, 4, 5, 6, 7, 8, 56, 58], [(0, .slice A xs.length c), (2, pt p3 0), (4, pt p9 0), (5, pt p31 0), (6, .int .i64 (n42 : Int)), (7, .int .i64 (ki : Int)), (8, pt p68 0), (56, pt p9 0), (58, .int .i64 (n127 : Int))], by kernel_rfl, ?_⟩
          obtain ⟨z134, hz134⟩ : ∃ z_ : Bool, z_ = (!(rOK z125 q126 n127)) := ⟨_, rfl⟩
          obtain ⟨q135, hq135⟩ : ∃ q_ : List UInt8, q_ = rR z125 q126 n127 := ⟨_, rfl⟩
          obtain ⟨v136, hv136⟩ : ∃ v_ : List UInt8, v_ = rV z125 q126 n127 := ⟨_, rfl⟩
          have hlv136 : v136.length ≤ n127 := by rw [hv136]; exact rV_le _ _ _
          refine GL.call (j := 4) (CTake_calls (ids [.blk p9 [.slice A xs.length c, .int .i64 (at128 : Int), .bool z125] 96]) p9 A xs c at128 z125 q126 n127 w131 (Hp.startL (A := [.blk p9 [.slice A xs.length c, .int .i64 (at128 : Int), .bool z125] 96]) (B := [.blk p3 [.int .u64 0, .int .u64 0, .slice none 0 0, .slice none 0 0] 64, .blk p31 [.int .u64 (((getB v17) : Nat) : Int), .int .u64 0, .slice Ai ki ci, .slice none 0 0] 64, .row Ai ki ci 89 35 (insR ins), .blk p68 (rc (hsh v79) (getB v107) 0 []) 89]) H132) ((RdO.of hx).mid (A' := [.blk p9 [.slice A xs.length c, .int .i64 (at128 : Int), .bool z125] 96]) (B' := [.blk p3 [.int .u64 0, .int .u64 0, .slice none 0 0, .slice none 0 0] 64, .blk p31 [.int .u64 (((getB v17) : Nat) : Int), .int .u64 0, .slice Ai ki ci, .slice none 0 0] 64, .row Ai ki ci 89 35 (insR ins), .blk p68 (rc (hsh v79) (getB v107) 0 []) 89]) H132) (hqa130) (hat129) hc hb (by omega)) (by kernel_rfl) rfl (fun e_ w143 hR => ?_)
          obtain ⟨A137, c138, at139, rfl, H145, hC140, hat141, hqa142⟩ := hR
          simp only [← hz134, ← hq135, ← hv136] at H145 hC140 hqa142 ⊢
          have H144 : Hp w [] [.blk p9 [.slice A xs.length c, .int .i64 (at139 : Int), .bool z134] 96, .blk p3 [.int .u64 0, .int .u64 0, .slice none 0 0, .slice none 0 0] 64, .blk p31 [.int .u64 (((getB v17) : Nat) : Int), .int .u64 0, .slice Ai ki ci, .slice none 0 0] 64, .row Ai ki ci 89 35 (insR ins), .blk p68 (rc (hsh v79) (getB v107) 0 []) 89] w143 := Hp.callL (A := [.blk p9 [.slice A xs.length c, .int .i64 (at128 : Int), .bool z125] 96]) (B := [.blk p3 [.int .u64 0, .int .u64 0, .slice none 0 0, .slice none 0 0] 64, .blk p31 [.int .u64 (((getB v17) : Nat) : Int), .int .u64 0, .slice Ai ki ci, .slice none 0 0] 64, .row Ai ki ci 89 35 (insR ins), .blk p68 (rc (hsh v79) (getB v107) 0 []) 89]) H132 H145
          refine ⟨_, rfl, [0, 2, 4, 5, 6, 7, 8, 59], [(0, .slice A xs.length c), (2, pt p3 0), (4, pt p9 0), (5, pt p31 0), (6, .int .i64 (n42 : Int)), (7, .int .i64 (ki : Int)), (8, pt p68 0), (59, .slice A137 v136.length c138)], by kernel_rfl, ?_⟩
          refine GL.sem (j := 5) (run_toStr (P := Try.prog) (src := 38) (dst := 9) (A := A137) (bs := v136) (n := v136.length) (c := c138) (by kernel_rfl) (by kernel_rfl) (hC140 _ (hx.hp H144)) (rfl)) [0, 2, 4, 5, 6, 7, 8, 60] [(0, .slice A xs.length c), (2, pt p3 0), (4, pt p9 0), (5, pt p31 0), (6, .int .i64 (n42 : Int)), (7, .int .i64 (ki : Int)), (8, pt p68 0), (60, .string (strOf v136))] (by kernel_rfl) (by kernel_rfl) rfl ?_
          refine GL.run (j := 6) 1 [0, 2, 4, 5, 6, 7, 8, 60, 61] [(0, .slice A xs.length c), (2, pt p3 0), (4, pt p9 0), (5, pt p31 0), (6, .int .i64 (n42 : Int)), (7, .int .i64 (ki : Int)), (8, pt p68 0), (60, .string (strOf v136)), (61, pt p68 34)] (by kernel_rfl) rfl ?_
          obtain ⟨w146, r147, H148⟩ := H144.st (P := Try.prog) (o := 34) (ty := 9) (v := .string (strOf v136)) 4 rfl (by kernel_rfl) (by rw [rc_length (hsh_length _)]; omega) rfl
          rw [rc_kb (hsh_length _)] at H148
          have H148 : Hp w [] [.blk p9 [.slice A xs.length c, .int .i64 (at139 : Int), .bool z134] 96, .blk p3 [.int .u64 0, .int .u64 0, .slice none 0 0, .slice none 0 0] 64, .blk p31 [.int .u64 (((getB v17) : Nat) : Int), .int .u64 0, .slice Ai ki ci, .slice none 0 0] 64, .row Ai ki ci 89 35 (insR ins), .blk p68 (rc (hsh v79) (getB v107) 0 v136) 89] w146 := H148
          refine GL.semU (j := 7) r147 [0, 2, 4, 5, 6, 7, 8] [(0, .slice A xs.length c), (2, pt p3 0), (4, pt p9 0), (5, pt p31 0), (6, .int .i64 (n42 : Int)), (7, .int .i64 (ki : Int)), (8, pt p68 0)] (by kernel_rfl) rfl rfl rfl ?_
          refine GL.k rfl hK124 (fun _ _ h => h) ?_
          refine G.seqK fun K149 hK150 => ?_
          refine G.region ?_
          refine GL.run (j := 1) 1 [0, 2, 4, 5, 6, 7, 8, 62] [(0, .slice A xs.length c), (2, pt p3 0), (4, pt p9 0), (5, pt p31 0), (6, .int .i64 (n42 : Int)), (7, .int .i64 (ki : Int)), (8, pt p68 0), (62, pt p9 0)] (by kernel_rfl) rfl ?_
          obtain ⟨z151, hz151⟩ : ∃ z_ : Bool, z_ = (!(rOK z134 q135 4)) := ⟨_, rfl⟩
          obtain ⟨q152, hq152⟩ : ∃ q_ : List UInt8, q_ = rR z134 q135 4 := ⟨_, rfl⟩
          obtain ⟨v153, hv153⟩ : ∃ v_ : List UInt8, v_ = rV z134 q135 4 := ⟨_, rfl⟩
          have hlv153 : v153.length ≤ 4 := by rw [hv153]; exact rV_le _ _ _
          have hbv153 : getB v153 < 4294967296 := Nat.lt_of_lt_of_le (getB_lt v153) (Nat.le_trans (Nat.pow_le_pow_right (by decide) hlv153) (by decide))
          refine GL.call (j := 2) (CTake_calls (ids [.blk p9 [.slice A xs.length c, .int .i64 (at139 : Int), .bool z134] 96]) p9 A xs c at139 z134 q135 4 w146 (Hp.startL (A := [.blk p9 [.slice A xs.length c, .int .i64 (at139 : Int), .bool z134] 96]) (B := [.blk p3 [.int .u64 0, .int .u64 0, .slice none 0 0, .slice none 0 0] 64, .blk p31 [.int .u64 (((getB v17) : Nat) : Int), .int .u64 0, .slice Ai ki ci, .slice none 0 0] 64, .row Ai ki ci 89 35 (insR ins), .blk p68 (rc (hsh v79) (getB v107) 0 v136) 89]) H148) ((RdO.of hx).mid (A' := [.blk p9 [.slice A xs.length c, .int .i64 (at139 : Int), .bool z134] 96]) (B' := [.blk p3 [.int .u64 0, .int .u64 0, .slice none 0 0, .slice none 0 0] 64, .blk p31 [.int .u64 (((getB v17) : Nat) : Int), .int .u64 0, .slice Ai ki ci, .slice none 0 0] 64, .row Ai ki ci 89 35 (insR ins), .blk p68 (rc (hsh v79) (getB v107) 0 v136) 89]) H148) (hqa142) (hat141) hc hb (by omega)) (by kernel_rfl) rfl (fun e_ w160 hR => ?_)
          obtain ⟨A154, c155, at156, rfl, H162, hC157, hat158, hqa159⟩ := hR
          simp only [← hz151, ← hq152, ← hv153] at H162 hC157 hqa159 ⊢
          have H161 : Hp w [] [.blk p9 [.slice A xs.length c, .int .i64 (at156 : Int), .bool z151] 96, .blk p3 [.int .u64 0, .int .u64 0, .slice none 0 0, .slice none 0 0] 64, .blk p31 [.int .u64 (((getB v17) : Nat) : Int), .int .u64 0, .slice Ai ki ci, .slice none 0 0] 64, .row Ai ki ci 89 35 (insR ins), .blk p68 (rc (hsh v79) (getB v107) 0 v136) 89] w160 := Hp.callL (A := [.blk p9 [.slice A xs.length c, .int .i64 (at139 : Int), .bool z134] 96]) (B := [.blk p3 [.int .u64 0, .int .u64 0, .slice none 0 0, .slice none 0 0] 64, .blk p31 [.int .u64 (((getB v17) : Nat) : Int), .int .u64 0, .slice Ai ki ci, .slice none 0 0] 64, .row Ai ki ci 89 35 (insR ins), .blk p68 (rc (hsh v79) (getB v107) 0 v136) 89]) H148 H162
          refine ⟨_, rfl, [0, 2, 4, 5, 6, 7, 8, 63], [(0, .slice A xs.length c), (2, pt p3 0), (4, pt p9 0), (5, pt p31 0), (6, .int .i64 (n42 : Int)), (7, .int .i64 (ki : Int)), (8, pt p68 0), (63, .slice A154 v153.length c155)], by kernel_rfl, ?_⟩
          refine GL.call (j := 3) (RGet_calls v153 A154 v153.length c155 w160 (hC157 _ (hx.hp H161)) (rfl) (by omega)) (by kernel_rfl) rfl (fun e_ w163 hR => ?_)
          obtain ⟨rfl, H165⟩ := hR
          have H164 : Hp w [] [.blk p9 [.slice A xs.length c, .int .i64 (at156 : Int), .bool z151] 96, .blk p3 [.int .u64 0, .int .u64 0, .slice none 0 0, .slice none 0 0] 64, .blk p31 [.int .u64 (((getB v17) : Nat) : Int), .int .u64 0, .slice Ai ki ci, .slice none 0 0] 64, .row Ai ki ci 89 35 (insR ins), .blk p68 (rc (hsh v79) (getB v107) 0 v136) 89] w163 := H161.callNil H165
          refine ⟨_, rfl, [0, 2, 4, 5, 6, 7, 8, 64], [(0, .slice A xs.length c), (2, pt p3 0), (4, pt p9 0), (5, pt p31 0), (6, .int .i64 (n42 : Int)), (7, .int .i64 (ki : Int)), (8, pt p68 0), (64, .int .u64 (((getB v153) : Nat) : Int))], by kernel_rfl, ?_⟩
          refine GL.run (j := 4) 1 [0, 2, 4, 5, 6, 7, 8, 64, 65] [(0, .slice A xs.length c), (2, pt p3 0), (4, pt p9 0), (5, pt p31 0), (6, .int .i64 (n42 : Int)), (7, .int .i64 (ki : Int)), (8, pt p68 0), (64, .int .u64 (((getB v153) : Nat) : Int)), (65, pt p68 33)] (by kernel_rfl) rfl ?_
          obtain ⟨w166, r167, H168⟩ := H164.st (P := Try.prog) (o := 33) (ty := 31) (v := .int .u64 (((getB v153) : Nat) : Int)) 4 rfl (by kernel_rfl) (by rw [rc_length (hsh_length _)]; omega) rfl
          rw [rc_sq (hsh_length _)] at H168
          have H168 : Hp w [] [.blk p9 [.slice A xs.length c, .int .i64 (at156 : Int), .bool z151] 96, .blk p3 [.int .u64 0, .int .u64 0, .slice none 0 0, .slice none 0 0] 64, .blk p31 [.int .u64 (((getB v17) : Nat) : Int), .int .u64 0, .slice Ai ki ci, .slice none 0 0] 64, .row Ai ki ci 89 35 (insR ins), .blk p68 (rc (hsh v79) (getB v107) (getB v153) v136) 89] w166 := H168
          refine GL.semU (j := 5) r167 [0, 2, 4, 5, 6, 7, 8] [(0, .slice A xs.length c), (2, pt p3 0), (4, pt p9 0), (5, pt p31 0), (6, .int .i64 (n42 : Int)), (7, .int .i64 (ki : Int)), (8, pt p68 0)] (by kernel_rfl) rfl rfl rfl ?_
          refine GL.k rfl hK150 (fun _ _ h => h) ?_
          refine G.region ?_
          refine GL.run (j := 1) 1 [0, 2, 4, 5, 6, 7, 8, 66] [(0, .slice A xs.length c), (2, pt p3 0), (4, pt p9 0), (5, pt p31 0), (6, .int .i64 (n42 : Int)), (7, .int .i64 (ki : Int)), (8, pt p68 0), (66, pt p31 2)] (by kernel_rfl) rfl ?_
          refine GL.sem (j := 2) (H168.ld (o := 2) (ty := 61) (v := .slice Ai ki ci) 2 rfl (by kernel_rfl) rfl) [0, 2, 4, 5, 6, 7, 8, 67] [(0, .slice A xs.length c), (2, pt p3 0), (4, pt p9 0), (5, pt p31 0), (6, .int .i64 (n42 : Int)), (7, .int .i64 (ki : Int)), (8, pt p68 0), (67, .slice Ai ki ci)] (by kernel_rfl) (by kernel_rfl) rfl ?_
          obtain ⟨x169, hx170⟩ : ∃ x_ : TIn, x_ = ⟨(hsh v79), (getB v107), none, v136, 0, (getB v153)⟩ := ⟨_, rfl⟩
          have H171 : Hp w [] [.blk p9 [.slice A xs.length c, .int .i64 (at156 : Int), .bool z151] 96, .blk p3 [.int .u64 0, .int .u64 0, .slice none 0 0, .slice none 0 0] 64, .blk p31 [.int .u64 (((getB v17) : Nat) : Int), .int .u64 0, .slice Ai ki ci, .slice none 0 0] 64, .row Ai ki ci 89 35 (insR ins), .blk p68 x169.rcells 89] w166 := by rw [hx170]; exact H168
          have hkx169 : VIn x169 := by rw [hx170]; exact ⟨hsh_length _, hbv107, hbv153, Nat.le_trans hlv136 hln127⟩
          refine GL.sem (j := 3) (H171.ldA (o := 0) (ty := 89) (m := 35) (sub := x169.rcells) 4 rfl (by kernel_rfl) (tx_sub (TIn.rcells_length hkx169.1)) (TIn.rcells_length hkx169.1)) [0, 2, 4, 5, 6, 7, 67, 68] [(0, .slice A xs.length c), (2, pt p3 0), (4, pt p9 0), (5, pt p31 0), (6, .int .i64 (n42 : Int)), (7, .int .i64 (ki : Int)), (67, .slice Ai ki ci), (68, .agg (x169.rcells).toArray)] (by kernel_rfl) (by kernel_rfl) rfl ?_
          obtain ⟨p172, w173, r174, H175⟩ := H171.madeIn x169 hkx169.1
          have H175 : Hp w [] [.blk p9 [.slice A xs.length c, .int .i64 (at156 : Int), .bool z151] 96, .blk p3 [.int .u64 0, .int .u64 0, .slice none 0 0, .slice none 0 0] 64, .blk p31 [.int .u64 (((getB v17) : Nat) : Int), .int .u64 0, .slice Ai ki ci, .slice none 0 0] 64, .row Ai ki ci 89 35 (insR ins), .blk p68 x169.rcells 89, .blk p172 x169.rcells 89] w173 := H175
          refine GL.sem (j := 4) (r174) [0, 2, 4, 5, 6, 7, 67, 69] [(0, .slice A xs.length c), (2, pt p3 0), (4, pt p9 0), (5, pt p31 0), (6, .int .i64 (n42 : Int)), (7, .int .i64 (ki : Int)), (67, .slice Ai ki ci), (69, .slice (some ⟨p172, 0, none⟩) 1 1)] (by kernel_rfl) (by kernel_rfl) rfl ?_
          obtain ⟨A176, c177, w178, r179, H180⟩ := H175.append (P := Try.prog) (e := 89) (sz := 35) (by_ := 64) (n := ki) (c := ci) (m := 1) (d := 1) (t := 61) (ty := 61) (xs := insR ins) (news := x169.rcells) 3 rfl (by kernel_rfl) (H175.rdBlk (o := 0) (xs := x169.rcells) 5 35 rfl (tx_sub (TIn.rcells_length hkx169.1))) (by rw [TIn.rcells_length hkx169.1]) (TIn.rcells_one) (by omega) (by simp only [maxLen]; omega)
          have H180 : Hp w [] [.blk p9 [.slice A xs.length c, .int .i64 (at156 : Int), .bool z151] 96, .blk p3 [.int .u64 0, .int .u64 0, .slice none 0 0, .slice none 0 0] 64, .blk p31 [.int .u64 (((getB v17) : Nat) : Int), .int .u64 0, .slice Ai ki ci, .slice none 0 0] 64, .row A176 (ki + 1) c177 89 35 (insR ins ++ x169.rcells), .blk p68 x169.rcells 89, .blk p172 x169.rcells 89] w178 := H180
          refine GL.sem (j := 5) (r179) [0, 2, 4, 5, 6, 7, 70] [(0, .slice A xs.length c), (2, pt p3 0), (4, pt p9 0), (5, pt p31 0), (6, .int .i64 (n42 : Int)), (7, .int .i64 (ki : Int)), (70, .slice A176 (ki + 1) c177)] (by kernel_rfl) (by kernel_rfl) rfl ?_
          refine GL.run (j := 6) 1 [0, 2, 4, 5, 6, 7, 70, 71] [(0, .slice A xs.length c), (2, pt p3 0), (4, pt p9 0), (5, pt p31 0), (6, .int .i64 (n42 : Int)), (7, .int .i64 (ki : Int)), (70, .slice A176 (ki + 1) c177), (71, pt p31 2)] (by kernel_rfl) rfl ?_
          obtain ⟨w181, r182, H183⟩ := H180.st (P := Try.prog) (o := 2) (ty := 61) (v := .slice A176 (ki + 1) c177) 2 rfl (by kernel_rfl) (by simp) rfl
          have H183 : Hp w [] [.blk p9 [.slice A xs.length c, .int .i64 (at156 : Int), .bool z151] 96, .blk p3 [.int .u64 0, .int .u64 0, .slice none 0 0, .slice none 0 0] 64, .blk p31 [.int .u64 (((getB v17) : Nat) : Int), .int .u64 0, .slice A176 (ki + 1) c177, .slice none 0 0] 64, .row A176 (ki + 1) c177 89 35 (insR ins ++ x169.rcells), .blk p68 x169.rcells 89, .blk p172 x169.rcells 89] w181 := H183
          refine GL.semU (j := 7) r182 [0, 2, 4, 5, 6, 7] [(0, .slice A xs.length c), (2, pt p3 0), (4, pt p9 0), (5, pt p31 0), (6, .int .i64 (n42 : Int)), (7, .int .i64 (ki : Int))] (by kernel_rfl) rfl rfl rfl ?_
          refine GL.k rfl hK65 (fun _ _ h => h) ?_
          refine G.region ?_
          refine GL.run (j := 3) 3 [0, 2, 4, 5, 6, 7] [(0, .slice A xs.length c), (2, pt p3 0), (4, pt p9 0), (5, pt p31 0), (6, .int .i64 (n42 : Int)), (7, .int .i64 (IntKind.i64.wrap ((ki : Int) + 1)))] (by kernel_rfl) rfl ?_
          have e184 : (IntKind.i64.wrap ((ki : Int) + 1)) = ((ki + 1 : Nat) : Int) := by rw [in_i64 (by omega)]; omega
          refine GL.eq (M' := [(0, .slice A xs.length c), (2, pt p3 0), (4, pt p9 0), (5, pt p31 0), (6, .int .i64 (n42 : Int)), (7, .int .i64 ((ki + 1 : Nat) : Int))]) (by rw [e184]) ?_
          clear e184
          have H185 : Hp w [] [.blk p9 [.slice A xs.length c, .int .i64 (at156 : Int), .bool z151] 96, .blk p3 [.int .u64 0, .int .u64 0, .slice none 0 0, .slice none 0 0] 64, .blk p31 [.int .u64 (((getB v17) : Nat) : Int), .int .u64 0, .slice A176 (ki + 1) c177, .slice none 0 0] 64, .row A176 (ki + 1) c177 89 35 (insR ins ++ x169.rcells)] w181 := H183.sub (List.Sublist.cons_cons _ (List.Sublist.cons_cons _ (List.Sublist.cons_cons _ (List.Sublist.cons_cons _ (List.Sublist.cons _ (List.Sublist.cons _ (List.Sublist.slnil)))))))
          have H186 := (Hp.reorder (L' := [.blk p9 [.slice A xs.length c, .int .i64 (at156 : Int), .bool z151] 96, .blk p3 [.int .u64 0, .int .u64 0, .slice none 0 0, .slice none 0 0] 64, .blk p31 [.int .u64 (((getB v17) : Nat) : Int), .int .u64 0, .slice A176 (ki + 1) c177, .slice none 0 0] 64, .row A176 (ki + 1) c177 89 35 (insR ins ++ x169.rcells)]) H185 (List.Perm.refl _))
          have H187 : Hp w [] [.blk p9 [.slice A xs.length c, .int .i64 (at156 : Int), .bool z151] 96, .blk p3 [.int .u64 0, .int .u64 0, .slice none 0 0, .slice none 0 0] 64, .blk p31 [.int .u64 (((getB v17) : Nat) : Int), .int .u64 0, .slice A176 (ki + 1) c177, .slice none 0 0] 64, .row A176 (ki + 1) c177 89 35 (insR (ins ++ [x169]))] w181 := by rw [insR_app]; exact H186
          have hR188 : RdIn zi qi z151 q152 x169 := ⟨_, _, _, _, _, _, _, _, _, hz77, hq78, hv79, hz105, hq106, hv107, by rw [hz134, hz125, hq126, hn127]; rfl, by rw [hq135, hz125, hq126, hn127]; rfl, by rw [hx170, hv136, hz125, hq126, hn127]; rfl, hz151, hq152, hv153, by rw [hx170], by rw [hx170], by rw [hx170]⟩
          refine GL.fit (ts := [0, 2, 4, 5, 6, 7]) (M' := [(0, .slice A xs.length c), (2, pt p3 0), (4, pt p9 0), (5, pt p31 0), (6, .int .i64 (n42 : Int)), (7, .int .i64 ((ki + 1 : Nat) : Int))]) (by kernel_rfl) ?_
          refine GL.eq (M' := [(0, .slice A xs.length c), (2, pt p3 0), (4, pt p9 0), (5, pt p31 0), (6, .int .i64 (n42 : Int)), (7, .int .i64 (((ki + 1) : Nat) : Int))]) (by rfl) ?_
          exact GL.again ⟨(ki + 1), z151, q152, at156, A176, c177, (ins ++ [x169])⟩ [0, 2, 4, 5, 6, 7] rfl (by kernel_rfl) (by show n42 - (ki + 1) < n42 - ki; omega) ⟨⟨⟨by omega, hiL.step (by omega) hR188.back (fun y_ T_ hV_ hz_ hq_ => ⟨(hR188.on_ hz_ hq_ hV_).1, (hR188.on_ hz_ hq_ hV_).2.1, rfl⟩)⟩, (fun y_ hy_ => by rcases List.mem_append.1 hy_ with h_ | h_; exact hiV y_ h_; simp only [List.mem_cons, List.not_mem_nil, or_false] at h_; rw [h_]; exact hkx169), hqa159, hat158⟩, H187⟩
        · skip
          have hb101f := of_decide_eq_true hb101
          refine G.yes rfl ?_
          refine G.skipK hK100 (fun _ _ h => h) ?_
          refine G.seqK fun K189 hK190 => ?_
          refine G.block ?_
          refine G.seqK fun K191 hK192 => ?_
          refine G.region ?_
          refine GL.run (j := 2) 2 [0, 2, 4, 5, 6, 7, 8, 9, 10, 40, 41] [(0, .slice A xs.length c), (2, pt p3 0), (4, pt p9 0), (5, pt p31 0), (6, .int .i64 (n42 : Int)), (7, .int .i64 (ki : Int)), (8, pt p68 0), (9, .slice A80 v79.length c81), (10, .int .i64 (kk : Int)), (40, .int .i64 (v79.length : Int)), (41, .int .i64 (kk : Int))] (by kernel_rfl) rfl ?_
          refine GL.k rfl hK192 (fun _ _ h => h) ?_
          refine G.region ?_
          refine GL.run (j := 3) 3 [0, 2, 4, 5, 6, 7, 8, 9, 40, 41, 44, 45, 46] [(0, .slice A xs.length c), (2, pt p3 0), (4, pt p9 0), (5, pt p31 0), (6, .int .i64 (n42 : Int)), (7, .int .i64 (ki : Int)), (8, pt p68 0), (9, .slice A80 v79.length c81), (40, .int .i64 (v79.length : Int)), (41, .int .i64 (kk : Int)), (44, .int .i64 (kk : Int)), (45, .slice A80 v79.length c81), (46, .int .i64 (kk : Int))] (by kernel_rfl) rfl ?_
          refine GL.sem (j := 4) (run_idxRd (P := Try.prog) (k := .i64) (t := 38) (A := A80) (len := v79.length) (cap := c81) (j := kk) (by kernel_rfl) rfl (hC83 _ (hx.hp H96)) (by rw [by8_length]) (by first | rfl | omega | (simp only [List.length_cons, List.length_nil, List.length_drop, List.length_take, List.length_append] <;> omega))) [0, 2, 4, 5, 6, 7, 8, 9, 40, 41, 44, 47] [(0, .slice A xs.length c), (2, pt p3 0), (4, pt p9 0), (5, pt p31 0), (6, .int .i64 (n42 : Int)), (7, .int .i64 (ki : Int)), (8, pt p68 0), (9, .slice A80 v79.length c81), (40, .int .i64 (v79.length : Int)), (41, .int .i64 (kk : Int)), (44, .int .i64 (kk : Int)), (47, .pointer (Option.map (fun x => Addr.add x kk) A80))] (by kernel_rfl) (by kernel_rfl) rfl ?_
          refine GL.sem (j := 5) (run_ldRd (P := Try.prog) (ty := 5) (A := A80) (j := kk) (v := .int .u8 ((v79.getD kk 0).toNat : Int)) (by kernel_rfl) (hC83 _ (hx.hp H96)) (by8_at (getD8 (by omega)))) [0, 2, 4, 5, 6, 7, 8, 9, 40, 41, 44, 48] [(0, .slice A xs.length c), (2, pt p3 0), (4, pt p9 0), (5, pt p31 0), (6, .int .i64 (n42 : Int)), (7, .int .i64 (ki : Int)), (8, pt p68 0), (9, .slice A80 v79.length c81), (40, .int .i64 (v79.length : Int)), (41, .int .i64 (kk : Int)), (44, .int .i64 (kk : Int)), (48, .int .u8 ((v79.getD kk 0).toNat : Int))] (by kernel_rfl) (by kernel_rfl) rfl ?_
          refine GL.run (j := 6) 1 [0, 2, 4, 5, 6, 7, 8, 9, 40, 41, 44, 48, 49] [(0, .slice A xs.length c), (2, pt p3 0), (4, pt p9 0), (5, pt p31 0), (6, .int .i64 (n42 : Int)), (7, .int .i64 (ki : Int)), (8, pt p68 0), (9, .slice A80 v79.length c81), (40, .int .i64 (v79.length : Int)), (41, .int .i64 (kk : Int)), (44, .int .i64 (kk : Int)), (48, .int .u8 ((v79.getD kk 0).toNat : Int)), (49, pt p68 0)] (by kernel_rfl) rfl ?_
          refine GL.sem (j := 7) (run_idxArr (P := Try.prog) (k := .i64) (t := 50) (len := 32) (sz := 1) (b := p68) (o := 0) (j := kk) (by kernel_rfl) rfl (by omega)) [0, 2, 4, 5, 6, 7, 8, 9, 40, 41, 48, 50] [(0, .slice A xs.length c), (2, pt p3 0), (4, pt p9 0), (5, pt p31 0), (6, .int .i64 (n42 : Int)), (7, .int .i64 (ki : Int)), (8, pt p68 0), (9, .slice A80 v79.length c81), (40, .int .i64 (v79.length : Int)), (41, .int .i64 (kk : Int)), (48, .int .u8 ((v79.getD kk 0).toNat : Int)), (50, pt p68 (0 + kk * 1))] (by kernel_rfl) (by kernel_rfl) rfl ?_
          obtain ⟨w193, r194, H195⟩ := H96.st (P := Try.prog) (o := (0 + kk * 1)) (ty := 5) (v := .int .u8 ((v79.getD kk 0).toNat : Int)) 4 rfl (by kernel_rfl) (by rw [rc_length (frP_length (by omega) hov79)]; omega) rfl
          rw [rc_byte (by omega) hov79] at H195
          have H195 : Hp w [] [.blk p9 [.slice A xs.length c, .int .i64 (at82 : Int), .bool z77] 96, .blk p3 [.int .u64 0, .int .u64 0, .slice none 0 0, .slice none 0 0] 64, .blk p31 [.int .u64 (((getB v17) : Nat) : Int), .int .u64 0, .slice Ai ki ci, .slice none 0 0] 64, .row Ai ki ci 89 35 (insR ins), .blk p68 (rc (frP v79 (kk + 1)) 0 0 []) 89] w193 := H195
          refine GL.semU (j := 8) r194 [0, 2, 4, 5, 6, 7, 8, 9, 40, 41] [(0, .slice A xs.length c), (2, pt p3 0), (4, pt p9 0), (5, pt p31 0), (6, .int .i64 (n42 : Int)), (7, .int .i64 (ki : Int)), (8, pt p68 0), (9, .slice A80 v79.length c81), (40, .int .i64 (v79.length : Int)), (41, .int .i64 (kk : Int))] (by kernel_rfl) rfl rfl rfl ?_
          refine GL.k rfl hK190 (fun _ _ h => h) ?_
          refine G.region ?_
          refine GL.run (j := 2) 2 [0, 2, 4, 5, 6, 7, 8, 9, 40, 41] [(0, .slice A xs.length c), (2, pt p3 0), (4, pt p9 0), (5, pt p31 0), (6, .int .i64 (n42 : Int)), (7, .int .i64 (ki : Int)), (8, pt p68 0), (9, .slice A80 v79.length c81), (40, .int .i64 (v79.length : Int)), (41, .int .i64 (IntKind.i64.wrap ((kk : Int) + 1)))] (by kernel_rfl) rfl ?_
          have e196 : (IntKind.i64.wrap ((kk : Int) + 1)) = ((kk + 1 : Nat) : Int) := by rw [in_i64 (by omega)]; omega
          refine GL.eq (M' := [(0, .slice A xs.length c), (2, pt p3 0), (4, pt p9 0), (5, pt p31 0), (6, .int .i64 (n42 : Int)), (7, .int .i64 (ki : Int)), (8, pt p68 0), (9, .slice A80 v79.length c81), (40, .int .i64 (v79.length : Int)), (41, .int .i64 ((kk + 1 : Nat) : Int))]) (by rw [e196]) ?_
          clear e196
          refine GL.fit (ts := [0, 2, 4, 5, 6, 7, 8, 9, 40, 41]) (M' := [(0, .slice A xs.length c), (2, pt p3 0), (4, pt p9 0), (5, pt p31 0), (6, .int .i64 (n42 : Int)), (7, .int .i64 (ki : Int)), (8, pt p68 0), (9, .slice A80 v79.length c81), (40, .int .i64 (v79.length : Int)), (41, .int .i64 ((kk + 1 : Nat) : Int))]) (by kernel_rfl) ?_
          refine GL.eq (M' := [(0, .slice A xs.length c), (2, pt p3 0), (4, pt p9 0), (5, pt p31 0), (6, .int .i64 (n42 : Int)), (7, .int .i64 (ki : Int)), (8, pt p68 0), (9, .slice A80 v79.length c81), (40, .int .i64 (v79.length : Int)), (41, .int .i64 (((kk + 1) : Nat) : Int))]) (by rfl) ?_
          exact GL.again (kk + 1) [0, 2, 4, 5, 6, 7, 8, 9, 40, 41] rfl (by kernel_rfl) (by show v79.length - (kk + 1) < v79.length - kk; omega) ⟨by omega, H195⟩
      · skip
        refine G.eq (M' := [(0, .slice A xs.length c), (2, pt p3 0), (4, pt p9 0), (5, pt p31 0), (6, .int .i64 (n42 : Int)), (7, .int .i64 (ki : Int)), (33, .bool false)]) (by first | (rw [hb63]; done) | (rw [hb63]; rfl)) ?_
        refine G.no rfl ?_
        refine G.exitK hK51 (fun _ _ h => h) ?_
        subst hiLl
        have hdn := hiL.done (.inr (by assumption))
        refine G.fit [0, 2, 4, 5, 6] (M' := [(0, .slice A xs.length c), (2, pt p3 0), (4, pt p9 0), (5, pt p31 0), (6, .int .i64 (n42 : Int))]) (by kernel_rfl) ?_
        exact J49 ⟨zi, qi, ati, Ai, ci, ins⟩ _ ⟨⟨hdn, hiV, hiq, hiat⟩, H57⟩
  · skip
    rintro ⟨zi_, qi_, ati_, Ai_, ci_, ins⟩ w197 ⟨hi198, H199⟩
    refine G.eq (M' := [(0, .slice A xs.length c), (2, pt p3 0), (4, pt p9 0), (5, pt p31 0), (6, .int .i64 (n42 : Int))]) rfl ?_
    have H199 : Hp w [] [.blk p9 [.slice A xs.length c, .int .i64 (ati_ : Int), .bool zi_] 96, .blk p3 [.int .u64 0, .int .u64 0, .slice none 0 0, .slice none 0 0] 64, .blk p31 [.int .u64 (((getB v17) : Nat) : Int), .int .u64 0, .slice Ai_ ins.length ci_, .slice none 0 0] 64, .row Ai_ ins.length ci_ 89 35 (insR ins)] w197 := H199
    obtain ⟨hiP, hiV, hiq_, hiat_⟩ := hi198
    refine G.seqK fun K200 hK201 => ?_
    refine G.region ?_
    refine GL.run (j := 1) 1 [0, 2, 4, 5, 6, 72] [(0, .slice A xs.length c), (2, pt p3 0), (4, pt p9 0), (5, pt p31 0), (6, .int .i64 (n42 : Int)), (72, pt p9 0)] (by kernel_rfl) rfl ?_
    obtain ⟨z202, hz202⟩ : ∃ z_ : Bool, z_ = (!(ctOK zi_ qi_ 64)) := ⟨_, rfl⟩
    obtain ⟨q203, hq203⟩ : ∃ q_ : List UInt8, q_ = ctR zi_ qi_ 64 := ⟨_, rfl⟩
    obtain ⟨n204, hn204⟩ : ∃ v_ : Nat, v_ = ctV zi_ qi_ 64 := ⟨_, rfl⟩
    have hln204 : n204 ≤ 64 := by rw [hn204]; exact ctV_le _ _ _
    refine GL.call (j := 2) (CCount_calls (ids [.blk p9 [.slice A xs.length c, .int .i64 (ati_ : Int), .bool zi_] 96]) p9 A xs c ati_ zi_ qi_ 64 w197 (Hp.startL (A := [.blk p9 [.slice A xs.length c, .int .i64 (ati_ : Int), .bool zi_] 96]) (B := [.blk p3 [.int .u64 0, .int .u64 0, .slice none 0 0, .slice none 0 0] 64, .blk p31 [.int .u64 (((getB v17) : Nat) : Int), .int .u64 0, .slice Ai_ ins.length ci_, .slice none 0 0] 64, .row Ai_ ins.length ci_ 89 35 (insR ins)]) H199) ((RdO.of hx).mid (A' := [.blk p9 [.slice A xs.length c, .int .i64 (ati_ : Int), .bool zi_] 96]) (B' := [.blk p3 [.int .u64 0, .int .u64 0, .slice none 0 0, .slice none 0 0] 64, .blk p31 [.int .u64 (((getB v17) : Nat) : Int), .int .u64 0, .slice Ai_ ins.length ci_, .slice none 0 0] 64, .row Ai_ ins.length ci_ 89 35 (insR ins)]) H199) (hiq_) (hiat_) hc hb (by decide)) (by kernel_rfl) rfl (fun e_ w208 hR => ?_)
    obtain ⟨at205, rfl, H210, hat206, hqa207⟩ := hR
    simp only [← hz202, ← hq203, ← hn204] at H210 hqa207 ⊢
    have H209 : Hp w [] [.blk p9 [.slice A xs.length c, .int .i64 (at205 : Int), .bool z202] 96, .blk p3 [.int .u64 0, .int .u64 0, .slice none 0 0, .slice none 0 0] 64, .blk p31 [.int .u64 (((getB v17) : Nat) : Int), .int .u64 0, .slice Ai_ ins.length ci_, .slice none 0 0] 64, .row Ai_ ins.length ci_ 89 35 (insR ins)] w208 := Hp.callL (A := [.blk p9 [.slice A xs.length c, .int .i64 (ati_ : Int), .bool zi_] 96]) (B := [.blk p3 [.int .u64 0, .int .u64 0, .slice none 0 0, .slice none 0 0] 64, .blk p31 [.int .u64 (((getB v17) : Nat) : Int), .int .u64 0, .slice Ai_ ins.length ci_, .slice none 0 0] 64, .row Ai_ ins.length ci_ 89 35 (insR ins)]) H199 H210
    refine ⟨_, rfl, [0, 2, 4, 5, 6, 73], [(0, .slice A xs.length c), (2, pt p3 0), (4, pt p9 0), (5, pt p31 0), (6, .int .i64 (n42 : Int)), (73, .int .i64 (n204 : Int))], by kernel_rfl, ?_⟩
    refine GL.run (j := 3) 1 [0, 2, 4, 5, 6, 11] [(0, .slice A xs.length c), (2, pt p3 0), (4, pt p9 0), (5, pt p31 0), (6, .int .i64 (n42 : Int)), (11, .int .i64 (n204 : Int))] (by kernel_rfl) rfl ?_
    refine GL.k rfl hK201 (fun _ _ h => h) ?_
    refine G.seqK fun K211 hK212 => ?_
    refine G.region ?_
    refine GL.run (j := 1) 1 [0, 2, 4, 5, 6, 11, 12] [(0, .slice A xs.length c), (2, pt p3 0), (4, pt p9 0), (5, pt p31 0), (6, .int .i64 (n42 : Int)), (11, .int .i64 (n204 : Int)), (12, .bool false)] (by kernel_rfl) rfl ?_
    refine GL.k rfl hK212 (fun _ _ h => h) ?_
    refine G.seqJ (X := Bool × List UInt8 × Nat × Option Addr × Nat × List TOut × Bool) (fun ⟨zo_, qo_, ato_, Ao_, co_, outs, ov⟩ => [(0, .slice A xs.length c), (2, pt p3 0), (4, pt p9 0), (5, pt p31 0), (6, .int .i64 (n42 : Int)), (11, .int .i64 (n204 : Int)), (12, .bool ov)]) (fun ⟨zo_, qo_, ato_, Ao_, co_, outs, ov⟩ w_ => (LDn TOut.bytes VOut TOut.pv n204 z202 q203 zo_ qo_ outs ∧ (∀ x ∈ outs, VOut x) ∧ qo_ = (if zo_ then [] else xs.drop ato_) ∧ ato_ ≤ xs.length ∧ (ov = true ↔ ∃ x ∈ outs, 4611686018427387904 < x.pv)) ∧ Hp w [] [.blk p9 [.slice A xs.length c, .int .i64 (ato_ : Int), .bool zo_] 96, .blk p3 [.int .u64 0, .int .u64 0, .slice none 0 0, .slice none 0 0] 64, .blk p31 [.int .u64 (((getB v17) : Nat) : Int), .int .u64 0, .slice Ai_ ins.length ci_, .slice Ao_ outs.length co_] 64, .row Ai_ ins.length ci_ 89 35 (insR ins), .row Ao_ outs.length co_ 91 2 (outsR outs)] w_) (fun J213 K214 hK215 => ?_) ?_
    · skip
      refine G.seqK fun K216 hK217 => ?_
      refine G.region ?_
      refine GL.run (j := 1) 1 [0, 2, 4, 5, 6, 11, 12, 13] [(0, .slice A xs.length c), (2, pt p3 0), (4, pt p9 0), (5, pt p31 0), (6, .int .i64 (n42 : Int)), (11, .int .i64 (n204 : Int)), (12, .bool false), (13, .int .i64 0)] (by kernel_rfl) rfl ?_
      refine GL.k rfl hK217 (fun _ _ h => h) ?_
      refine G.block ?_
      have H218 := H209.rowNil 91 2
      have H218 : Hp w [] [.blk p9 [.slice A xs.length c, .int .i64 (at205 : Int), .bool z202] 96, .blk p3 [.int .u64 0, .int .u64 0, .slice none 0 0, .slice none 0 0] 64, .blk p31 [.int .u64 (((getB v17) : Nat) : Int), .int .u64 0, .slice Ai_ ins.length ci_, .slice none 0 0] 64, .row Ai_ ins.length ci_ 89 35 (insR ins), .row none 0 0 91 2 (outsR ([] : List TOut))] w208 := H218
      have ho64 : n204 ≤ 64 := hln204
      refine G.fit [0, 2, 4, 5, 6, 11, 12, 13] (M' := [(0, .slice A xs.length c), (2, pt p3 0), (4, pt p9 0), (5, pt p31 0), (6, .int .i64 (n42 : Int)), (11, .int .i64 (n204 : Int)), (12, .bool false), (13, .int .i64 0)]) (by kernel_rfl) ?_
      refine G.loop (X := Nat × Bool × List UInt8 × Nat × Option Addr × Nat × List TOut × Bool) (fun ⟨ko, zo, qo, ato, Ao, co, outs, ov⟩ => [(0, .slice A xs.length c), (2, pt p3 0), (4, pt p9 0), (5, pt p31 0), (6, .int .i64 (n42 : Int)), (11, .int .i64 (n204 : Int)), (12, .bool ov), (13, .int .i64 (ko : Int))]) (fun ⟨ko, zo, qo, ato, Ao, co, outs, ov⟩ w_ => ((ko ≤ n204 ∧ LOf TOut.bytes VOut TOut.pv n204 z202 q203 ko zo qo outs) ∧ (∀ x ∈ outs, VOut x) ∧ qo = (if zo then [] else xs.drop ato) ∧ ato ≤ xs.length ∧ (ov = true ↔ ∃ x ∈ outs, 4611686018427387904 < x.pv)) ∧ Hp w [] [.blk p9 [.slice A xs.length c, .int .i64 (ato : Int), .bool zo] 96, .blk p3 [.int .u64 0, .int .u64 0, .slice none 0 0, .slice none 0 0] 64, .blk p31 [.int .u64 (((getB v17) : Nat) : Int), .int .u64 0, .slice Ai_ ins.length ci_, .slice Ao ko co] 64, .row Ai_ ins.length ci_ 89 35 (insR ins), .row Ao ko co 91 2 (outsR outs)] w_) (fun ⟨ko, zo, qo, ato, Ao, co, outs, ov⟩ => n204 - ko) ⟨0, z202, q203, at205, none, 0, ([] : List TOut), false⟩ [0, 2, 4, 5, 6, 11, 12, 13] (by kernel_rfl) ⟨⟨⟨Nat.zero_le _, LOf.zero⟩, (fun x_ h_ => by simp at h_), hqa207, hat206, by simp⟩, H218⟩ ?_
      rintro ⟨ko, zo, qo, ato, Ao, co, outs, ov⟩ w219 ⟨hi220, H221⟩
      refine G.eq (M' := [(0, .slice A xs.length c), (2, pt p3 0), (4, pt p9 0), (5, pt p31 0), (6, .int .i64 (n42 : Int)), (11, .int .i64 (n204 : Int)), (12, .bool ov), (13, .int .i64 (ko : Int))]) rfl ?_
      have H221 : Hp w [] [.blk p9 [.slice A xs.length c, .int .i64 (ato : Int), .bool zo] 96, .blk p3 [.int .u64 0, .int .u64 0, .slice none 0 0, .slice none 0 0] 64, .blk p31 [.int .u64 (((getB v17) : Nat) : Int), .int .u64 0, .slice Ai_ ins.length ci_, .slice Ao ko co] 64, .row Ai_ ins.length ci_ 89 35 (insR ins), .row Ao ko co 91 2 (outsR outs)] w219 := H221
      obtain ⟨⟨hon, hoL⟩, hoV, hoq, hoat, hov⟩ := hi220
      have hoLl := hoL.1
      refine G.seqK fun K222 hK223 => ?_
      refine G.seqK fun K224 hK225 => ?_
      refine G.region ?_
      refine GL.run (j := 4) 4 [0, 2, 4, 5, 6, 11, 12, 13, 77] [(0, .slice A xs.length c), (2, pt p3 0), (4, pt p9 0), (5, pt p31 0), (6, .int .i64 (n42 : Int)), (11, .int .i64 (n204 : Int)), (12, .bool ov), (13, .int .i64 (ko : Int)), (77, .bool (decide ((ko : Int) < (n204 : Int))))] (by kernel_rfl) rfl ?_
      cases hb226 : (decide ((ko : Int) < (n204 : Int)))
      · skip
        have hb226f := of_decide_eq_false hb226
        refine GL.run (j := 10) 6 [0, 2, 4, 5, 6, 11, 12, 13, 83] [(0, .slice A xs.length c), (2, pt p3 0), (4, pt p9 0), (5, pt p31 0), (6, .int .i64 (n42 : Int)), (11, .int .i64 (n204 : Int)), (12, .bool ov), (13, .int .i64 (ko : Int)), (83, .bool false)] (by kernel_rfl) rfl ?_
        refine GL.k rfl hK225 (fun _ _ h => h) ?_
        refine G.no rfl ?_
        refine G.exitK hK215 (fun _ _ h => h) ?_
        subst hoLl
        have hdn := hoL.done (.inl (by omega))
        refine G.fit [0, 2, 4, 5, 6, 11, 12] (M' := [(0, .slice A xs.length c), (2, pt p3 0), (4, pt p9 0), (5, pt p31 0), (6, .int .i64 (n42 : Int)), (11, .int .i64 (n204 : Int)), (12, .bool ov)]) (by kernel_rfl) ?_
        exact J213 ⟨zo, qo, ato, Ao, co, outs, ov⟩ _ ⟨⟨hdn, hoV, hoq, hoat, hov⟩, H221⟩
      · skip
        have hb226f := of_decide_eq_true hb226
        refine GL.run (j := 7) 3 [0, 2, 4, 5, 6, 11, 12, 13, 77, 80] [(0, .slice A xs.length c), (2, pt p3 0), (4, pt p9 0), (5, pt p31 0), (6, .int .i64 (n42 : Int)), (11, .int .i64 (n204 : Int)), (12, .bool ov), (13, .int .i64 (ko : Int)), (77, .bool true), (80, pt p9 2)] (by kernel_rfl) rfl ?_
        refine GL.sem (j := 8) (H221.ld (o := 2) (ty := 4) (v := .bool zo) 0 rfl (by kernel_rfl) rfl) [0, 2, 4, 5, 6, 11, 12, 13, 77, 81] [(0, .slice A xs.length c), (2, pt p3 0), (4, pt p9 0), (5, pt p31 0), (6, .int .i64 (n42 : Int)), (11, .int .i64 (n204 : Int)), (12, .bool ov), (13, .int .i64 (ko : Int)), (77, .bool true), (81, .bool zo)] (by kernel_rfl) (by kernel_rfl) rfl ?_
        refine GL.run (j := 10) 2 [0, 2, 4, 5, 6, 11, 12, 13, 83] [(0, .slice A xs.length c), (2, pt p3 0), (4, pt p9 0), (5, pt p31 0), (6, .int .i64 (n42 : Int)), (11, .int .i64 (n204 : Int)), (12, .bool ov), (13, .int .i64 (ko : Int)), (83, .bool (!zo))] (by kernel_rfl) rfl ?_
        refine GL.k rfl hK225 (fun _ _ h => h) ?_
        rcases (Bool.eq_false_or_eq_true zo).symm with hb227 | hb227
        · skip
          refine G.eq (M' := [(0, .slice A xs.length c), (2, pt p3 0), (4, pt p9 0), (5, pt p31 0), (6, .int .i64 (n42 : Int)), (11, .int .i64 (n204 : Int)), (12, .bool ov), (13, .int .i64 (ko : Int)), (83, .bool true)]) (by first | (rw [hb227]; done) | (rw [hb227]; rfl)) ?_
          refine G.yes rfl ?_
          refine G.skipK hK223 (fun _ _ h => h) ?_
          refine G.seqK fun K228 hK229 => ?_
          refine G.block ?_
          refine G.seqK fun K230 hK231 => ?_
          refine G.region ?_
          refine GL.run (j := 1) 1 [0, 2, 4, 5, 6, 11, 12, 13, 86] [(0, .slice A xs.length c), (2, pt p3 0), (4, pt p9 0), (5, pt p31 0), (6, .int .i64 (n42 : Int)), (11, .int .i64 (n204 : Int)), (12, .bool ov), (13, .int .i64 (ko : Int)), (86, pt p9 0)] (by kernel_rfl) rfl ?_
          obtain ⟨z232, hz232⟩ : ∃ z_ : Bool, z_ = (!(rOK zo qo 8)) := ⟨_, rfl⟩
          obtain ⟨q233, hq233⟩ : ∃ q_ : List UInt8, q_ = rR zo qo 8 := ⟨_, rfl⟩
          obtain ⟨v234, hv234⟩ : ∃ v_ : List UInt8, v_ = rV zo qo 8 := ⟨_, rfl⟩
          have hlv234 : v234.length ≤ 8 := by rw [hv234]; exact rV_le _ _ _
          have hbv234 : getB v234 < 18446744073709551616 := Nat.lt_of_lt_of_le (getB_lt v234) (Nat.le_trans (Nat.pow_le_pow_right (by decide) hlv234) (by decide))
          refine GL.call (j := 2) (CTake_calls (ids [.blk p9 [.slice A xs.length c, .int .i64 (ato : Int), .bool zo] 96]) p9 A xs c ato zo qo 8 w219 (Hp.startL (A := [.blk p9 [.slice A xs.length c, .int .i64 (ato : Int), .bool zo] 96]) (B := [.blk p3 [.int .u64 0, .int .u64 0, .slice none 0 0, .slice none 0 0] 64, .blk p31 [.int .u64 (((getB v17) : Nat) : Int), .int .u64 0, .slice Ai_ ins.length ci_, .slice Ao ko co] 64, .row Ai_ ins.length ci_ 89 35 (insR ins), .row Ao ko co 91 2 (outsR outs)]) H221) ((RdO.of hx).mid (A' := [.blk p9 [.slice A xs.length c, .int .i64 (ato : Int), .bool zo] 96]) (B' := [.blk p3 [.int .u64 0, .int .u64 0, .slice none 0 0, .slice none 0 0] 64, .blk p31 [.int .u64 (((getB v17) : Nat) : Int), .int .u64 0, .slice Ai_ ins.length ci_, .slice Ao ko co] 64, .row Ai_ ins.length ci_ 89 35 (insR ins), .row Ao ko co 91 2 (outsR outs)]) H221) (hoq) (hoat) hc hb (by omega)) (by kernel_rfl) rfl (fun e_ w241 hR => ?_)
          obtain ⟨A235, c236, at237, rfl, H243, hC238, hat239, hqa240⟩ := hR
          simp only [← hz232, ← hq233, ← hv234] at H243 hC238 hqa240 ⊢
          have H242 : Hp w [] [.blk p9 [.slice A xs.length c, .int .i64 (at237 : Int), .bool z232] 96, .blk p3 [.int .u64 0, .int .u64 0, .slice none 0 0, .slice none 0 0] 64, .blk p31 [.int .u64 (((getB v17) : Nat) : Int), .int .u64 0, .slice Ai_ ins.length ci_, .slice Ao ko co] 64, .row Ai_ ins.length ci_ 89 35 (insR ins), .row Ao ko co 91 2 (outsR outs)] w241 := Hp.callL (A := [.blk p9 [.slice A xs.length c, .int .i64 (ato : Int), .bool zo] 96]) (B := [.blk p3 [.int .u64 0, .int .u64 0, .slice none 0 0, .slice none 0 0] 64, .blk p31 [.int .u64 (((getB v17) : Nat) : Int), .int .u64 0, .slice Ai_ ins.length ci_, .slice Ao ko co] 64, .row Ai_ ins.length ci_ 89 35 (insR ins), .row Ao ko co 91 2 (outsR outs)]) H221 H243
          refine ⟨_, rfl, [0, 2, 4, 5, 6, 11, 12, 13, 87], [(0, .slice A xs.length c), (2, pt p3 0), (4, pt p9 0), (5, pt p31 0), (6, .int .i64 (n42 : Int)), (11, .int .i64 (n204 : Int)), (12, .bool ov), (13, .int .i64 (ko : Int)), (87, .slice A235 v234.length c236)], by kernel_rfl, ?_⟩
          refine GL.call (j := 3) (RGet_calls v234 A235 v234.length c236 w241 (hC238 _ (hx.hp H242)) (rfl) (by omega)) (by kernel_rfl) rfl (fun e_ w244 hR => ?_)
          obtain ⟨rfl, H246⟩ := hR
          have H245 : Hp w [] [.blk p9 [.slice A xs.length c, .int .i64 (at237 : Int), .bool z232] 96, .blk p3 [.int .u64 0, .int .u64 0, .slice none 0 0, .slice none 0 0] 64, .blk p31 [.int .u64 (((getB v17) : Nat) : Int), .int .u64 0, .slice Ai_ ins.length ci_, .slice Ao ko co] 64, .row Ai_ ins.length ci_ 89 35 (insR ins), .row Ao ko co 91 2 (outsR outs)] w244 := H242.callNil H246
          refine ⟨_, rfl, [0, 2, 4, 5, 6, 11, 12, 13, 88], [(0, .slice A xs.length c), (2, pt p3 0), (4, pt p9 0), (5, pt p31 0), (6, .int .i64 (n42 : Int)), (11, .int .i64 (n204 : Int)), (12, .bool ov), (13, .int .i64 (ko : Int)), (88, .int .u64 (((getB v234) : Nat) : Int))], by kernel_rfl, ?_⟩
          refine GL.run (j := 4) 1 [0, 2, 4, 5, 6, 11, 12, 13, 89] [(0, .slice A xs.length c), (2, pt p3 0), (4, pt p9 0), (5, pt p31 0), (6, .int .i64 (n42 : Int)), (11, .int .i64 (n204 : Int)), (12, .bool ov), (13, .int .i64 (ko : Int)), (89, .agg #[.int .u64 (((getB v234) : Nat) : Int), .string ⟨#[]⟩])] (by kernel_rfl) rfl ?_
          obtain ⟨p247, w248, r249, H250⟩ := H245.alloc (P := Try.prog) 91 [.int .u64 0, .string ⟨#[]⟩] (by kernel_rfl)
          have H250 : Hp w [] [.blk p9 [.slice A xs.length c, .int .i64 (at237 : Int), .bool z232] 96, .blk p3 [.int .u64 0, .int .u64 0, .slice none 0 0, .slice none 0 0] 64, .blk p31 [.int .u64 (((getB v17) : Nat) : Int), .int .u64 0, .slice Ai_ ins.length ci_, .slice Ao ko co] 64, .row Ai_ ins.length ci_ 89 35 (insR ins), .row Ao ko co 91 2 (outsR outs), .blk p247 [.int .u64 0, .string ⟨#[]⟩] 91] w248 := H250
          refine GL.sem (j := 5) (r249) [0, 2, 4, 5, 6, 11, 12, 13, 14, 89] [(0, .slice A xs.length c), (2, pt p3 0), (4, pt p9 0), (5, pt p31 0), (6, .int .i64 (n42 : Int)), (11, .int .i64 (n204 : Int)), (12, .bool ov), (13, .int .i64 (ko : Int)), (14, pt p247 0), (89, .agg #[.int .u64 (((getB v234) : Nat) : Int), .string ⟨#[]⟩])] (by kernel_rfl) (by kernel_rfl) rfl ?_
          obtain ⟨w251, r252, H253⟩ := H250.stA (P := Try.prog) (o := 0) (vs := [.int .u64 (((getB v234) : Nat) : Int), .string ⟨#[]⟩]) (ty := 91) (m := 2) 5 rfl (by kernel_rfl) rfl (by simp) (by simp [Value.oneCell'])
          have H253 : Hp w [] [.blk p9 [.slice A xs.length c, .int .i64 (at237 : Int), .bool z232] 96, .blk p3 [.int .u64 0, .int .u64 0, .slice none 0 0, .slice none 0 0] 64, .blk p31 [.int .u64 (((getB v17) : Nat) : Int), .int .u64 0, .slice Ai_ ins.length ci_, .slice Ao ko co] 64, .row Ai_ ins.length ci_ 89 35 (insR ins), .row Ao ko co 91 2 (outsR outs), .blk p247 [.int .u64 (((getB v234) : Nat) : Int), .string ⟨#[]⟩] 91] w251 := H253
          refine GL.semU (j := 6) r252 [0, 2, 4, 5, 6, 11, 12, 13, 14] [(0, .slice A xs.length c), (2, pt p3 0), (4, pt p9 0), (5, pt p31 0), (6, .int .i64 (n42 : Int)), (11, .int .i64 (n204 : Int)), (12, .bool ov), (13, .int .i64 (ko : Int)), (14, pt p247 0)] (by kernel_rfl) rfl rfl rfl ?_
          refine GL.k rfl hK231 (fun _ _ h => h) ?_
          refine G.seqK fun K254 hK255 => ?_
          refine G.region ?_
          refine GL.run (j := 2) 2 [0, 2, 4, 5, 6, 11, 12, 13, 14, 90, 91] [(0, .slice A xs.length c), (2, pt p3 0), (4, pt p9 0), (5, pt p31 0), (6, .int .i64 (n42 : Int)), (11, .int .i64 (n204 : Int)), (12, .bool ov), (13, .int .i64 (ko : Int)), (14, pt p247 0), (90, pt p9 0), (91, pt p9 0)] (by kernel_rfl) rfl ?_
          obtain ⟨z256, hz256⟩ : ∃ z_ : Bool, z_ = (!(ctOK z232 q233 520)) := ⟨_, rfl⟩
          obtain ⟨q257, hq257⟩ : ∃ q_ : List UInt8, q_ = ctR z232 q233 520 := ⟨_, rfl⟩
          obtain ⟨n258, hn258⟩ : ∃ v_ : Nat, v_ = ctV z232 q233 520 := ⟨_, rfl⟩
          have hln258 : n258 ≤ 520 := by rw [hn258]; exact ctV_le _ _ _
          refine GL.call (j := 3) (CCount_calls (ids [.blk p9 [.slice A xs.length c, .int .i64 (at237 : Int), .bool z232] 96]) p9 A xs c at237 z232 q233 520 w251 (Hp.startL (A := [.blk p9 [.slice A xs.length c, .int .i64 (at237 : Int), .bool z232] 96]) (B := [.blk p3 [.int .u64 0, .int .u64 0, .slice none 0 0, .slice none 0 0] 64, .blk p31 [.int .u64 (((getB v17) : Nat) : Int), .int .u64 0, .slice Ai_ ins.length ci_, .slice Ao ko co] 64, .row Ai_ ins.length ci_ 89 35 (insR ins), .row Ao ko co 91 2 (outsR outs), .blk p247 [.int .u64 (((getB v234) : Nat) : Int), .string ⟨#[]⟩] 91]) H253) ((RdO.of hx).mid (A' := [.blk p9 [.slice A xs.length c, .int .i64 (at237 : Int), .bool z232] 96]) (B' := [.blk p3 [.int .u64 0, .int .u64 0, .slice none 0 0, .slice none 0 0] 64, .blk p31 [.int .u64 (((getB v17) : Nat) : Int), .int .u64 0, .slice Ai_ ins.length ci_, .slice Ao ko co] 64, .row Ai_ ins.length ci_ 89 35 (insR ins), .row Ao ko co 91 2 (outsR outs), .blk p247 [.int .u64 (((getB v234) : Nat) : Int), .string ⟨#[]⟩] 91]) H253) (hqa240) (hat239) hc hb (by decide)) (by kernel_rfl) rfl (fun e_ w262 hR => ?_)
          obtain ⟨at259, rfl, H264, hat260, hqa261⟩ := hR
          simp only [← hz256, ← hq257, ← hn258] at H264 hqa261 ⊢
          have H263 : Hp w [] [.blk p9 [.slice A xs.length c, .int .i64 (at259 : Int), .bool z256] 96, .blk p3 [.int .u64 0, .int .u64 0, .slice none 0 0, .slice none 0 0] 64, .blk p31 [.int .u64 (((getB v17) : Nat) : Int), .int .u64 0, .slice Ai_ ins.length ci_, .slice Ao ko co] 64, .row Ai_ ins.length ci_ 89 35 (insR ins), .row Ao ko co 91 2 (outsR outs), .blk p247 [.int .u64 (((getB v234) : Nat) : Int), .string ⟨#[]⟩] 91] w262 := Hp.callL (A := [.blk p9 [.slice A xs.length c, .int .i64 (at237 : Int), .bool z232] 96]) (B := [.blk p3 [.int .u64 0, .int .u64 0, .slice none 0 0, .slice none 0 0] 64, .blk p31 [.int .u64 (((getB v17) : Nat) : Int), .int .u64 0, .slice Ai_ ins.length ci_, .slice Ao ko co] 64, .row Ai_ ins.length ci_ 89 35 (insR ins), .row Ao ko co 91 2 (outsR outs), .blk p247 [.int .u64 (((getB v234) : Nat) : Int), .string ⟨#[]⟩] 91]) H253 H264
          refine ⟨_, rfl, [0, 2, 4, 5, 6, 11, 12, 13, 14, 90, 92], [(0, .slice A xs.length c), (2, pt p3 0), (4, pt p9 0), (5, pt p31 0), (6, .int .i64 (n42 : Int)), (11, .int .i64 (n204 : Int)), (12, .bool ov), (13, .int .i64 (ko : Int)), (14, pt p247 0), (90, pt p9 0), (92, .int .i64 (n258 : Int))], by kernel_rfl, ?_⟩
          obtain ⟨z265, hz265⟩ : ∃ z_ : Bool, z_ = (!(rOK z256 q257 n258)) := ⟨_, rfl⟩
          obtain ⟨q266, hq266⟩ : ∃ q_ : List UInt8, q_ = rR z256 q257 n258 := ⟨_, rfl⟩
          obtain ⟨v267, hv267⟩ : ∃ v_ : List UInt8, v_ = rV z256 q257 n258 := ⟨_, rfl⟩
          have hlv267 : v267.length ≤ n258 := by rw [hv267]; exact rV_le _ _ _
          refine GL.call (j := 4) (CTake_calls (ids [.blk p9 [.slice A xs.length c, .int .i64 (at259 : Int), .bool z256] 96]) p9 A xs c at259 z256 q257 n258 w262 (Hp.startL (A := [.blk p9 [.slice A xs.length c, .int .i64 (at259 : Int), .bool z256] 96]) (B := [.blk p3 [.int .u64 0, .int .u64 0, .slice none 0 0, .slice none 0 0] 64, .blk p31 [.int .u64 (((getB v17) : Nat) : Int), .int .u64 0, .slice Ai_ ins.length ci_, .slice Ao ko co] 64, .row Ai_ ins.length ci_ 89 35 (insR ins), .row Ao ko co 91 2 (outsR outs), .blk p247 [.int .u64 (((getB v234) : Nat) : Int), .string ⟨#[]⟩] 91]) H263) ((RdO.of hx).mid (A' := [.blk p9 [.slice A xs.length c, .int .i64 (at259 : Int), .bool z256] 96]) (B' := [.blk p3 [.int .u64 0, .int .u64 0, .slice none 0 0, .slice none 0 0] 64, .blk p31 [.int .u64 (((getB v17) : Nat) : Int), .int .u64 0, .slice Ai_ ins.length ci_, .slice Ao ko co] 64, .row Ai_ ins.length ci_ 89 35 (insR ins), .row Ao ko co 91 2 (outsR outs), .blk p247 [.int .u64 (((getB v234) : Nat) : Int), .string ⟨#[]⟩] 91]) H263) (hqa261) (hat260) hc hb (by omega)) (by kernel_rfl) rfl (fun e_ w274 hR => ?_)
          obtain ⟨A268, c269, at270, rfl, H276, hC271, hat272, hqa273⟩ := hR
          simp only [← hz265, ← hq266, ← hv267] at H276 hC271 hqa273 ⊢
          have H275 : Hp w [] [.blk p9 [.slice A xs.length c, .int .i64 (at270 : Int), .bool z265] 96, .blk p3 [.int .u64 0, .int .u64 0, .slice none 0 0, .slice none 0 0] 64, .blk p31 [.int .u64 (((getB v17) : Nat) : Int), .int .u64 0, .slice Ai_ ins.length ci_, .slice Ao ko co] 64, .row Ai_ ins.length ci_ 89 35 (insR ins), .row Ao ko co 91 2 (outsR outs), .blk p247 [.int .u64 (((getB v234) : Nat) : Int), .string ⟨#[]⟩] 91] w274 := Hp.callL (A := [.blk p9 [.slice A xs.length c, .int .i64 (at259 : Int), .bool z256] 96]) (B := [.blk p3 [.int .u64 0, .int .u64 0, .slice none 0 0, .slice none 0 0] 64, .blk p31 [.int .u64 (((getB v17) : Nat) : Int), .int .u64 0, .slice Ai_ ins.length ci_, .slice Ao ko co] 64, .row Ai_ ins.length ci_ 89 35 (insR ins), .row Ao ko co 91 2 (outsR outs), .blk p247 [.int .u64 (((getB v234) : Nat) : Int), .string ⟨#[]⟩] 91]) H263 H276
          refine ⟨_, rfl, [0, 2, 4, 5, 6, 11, 12, 13, 14, 93], [(0, .slice A xs.length c), (2, pt p3 0), (4, pt p9 0), (5, pt p31 0), (6, .int .i64 (n42 : Int)), (11, .int .i64 (n204 : Int)), (12, .bool ov), (13, .int .i64 (ko : Int)), (14, pt p247 0), (93, .slice A268 v267.length c269)], by kernel_rfl, ?_⟩
          refine GL.sem (j := 5) (run_toStr (P := Try.prog) (src := 38) (dst := 9) (A := A268) (bs := v267) (n := v267.length) (c := c269) (by kernel_rfl) (by kernel_rfl) (hC271 _ (hx.hp H275)) (rfl)) [0, 2, 4, 5, 6, 11, 12, 13, 14, 94] [(0, .slice A xs.length c), (2, pt p3 0), (4, pt p9 0), (5, pt p31 0), (6, .int .i64 (n42 : Int)), (11, .int .i64 (n204 : Int)), (12, .bool ov), (13, .int .i64 (ko : Int)), (14, pt p247 0), (94, .string (strOf v267))] (by kernel_rfl) (by kernel_rfl) rfl ?_
          refine GL.run (j := 6) 1 [0, 2, 4, 5, 6, 11, 12, 13, 14, 94, 95] [(0, .slice A xs.length c), (2, pt p3 0), (4, pt p9 0), (5, pt p31 0), (6, .int .i64 (n42 : Int)), (11, .int .i64 (n204 : Int)), (12, .bool ov), (13, .int .i64 (ko : Int)), (14, pt p247 0), (94, .string (strOf v267)), (95, pt p247 1)] (by kernel_rfl) rfl ?_
          obtain ⟨w277, r278, H279⟩ := H275.st (P := Try.prog) (o := 1) (ty := 9) (v := .string (strOf v267)) 5 rfl (by kernel_rfl) (by simp) rfl
          have H279 : Hp w [] [.blk p9 [.slice A xs.length c, .int .i64 (at270 : Int), .bool z265] 96, .blk p3 [.int .u64 0, .int .u64 0, .slice none 0 0, .slice none 0 0] 64, .blk p31 [.int .u64 (((getB v17) : Nat) : Int), .int .u64 0, .slice Ai_ ins.length ci_, .slice Ao ko co] 64, .row Ai_ ins.length ci_ 89 35 (insR ins), .row Ao ko co 91 2 (outsR outs), .blk p247 [.int .u64 (((getB v234) : Nat) : Int), .string (strOf v267)] 91] w277 := H279
          refine GL.semU (j := 7) r278 [0, 2, 4, 5, 6, 11, 12, 13, 14] [(0, .slice A xs.length c), (2, pt p3 0), (4, pt p9 0), (5, pt p31 0), (6, .int .i64 (n42 : Int)), (11, .int .i64 (n204 : Int)), (12, .bool ov), (13, .int .i64 (ko : Int)), (14, pt p247 0)] (by kernel_rfl) rfl rfl rfl ?_
          refine GL.k rfl hK255 (fun _ _ h => h) ?_
          refine G.seqK fun K280 hK281 => ?_
          refine G.region ?_
          refine GL.run (j := 2) 2 [0, 2, 4, 5, 6, 11, 13, 14, 97] [(0, .slice A xs.length c), (2, pt p3 0), (4, pt p9 0), (5, pt p31 0), (6, .int .i64 (n42 : Int)), (11, .int .i64 (n204 : Int)), (13, .int .i64 (ko : Int)), (14, pt p247 0), (97, .bool ov)] (by kernel_rfl) rfl ?_
          rcases (Bool.eq_false_or_eq_true ov).symm with hb282 | hb282
          · skip
            refine GL.eq (M' := [(0, .slice A xs.length c), (2, pt p3 0), (4, pt p9 0), (5, pt p31 0), (6, .int .i64 (n42 : Int)), (11, .int .i64 (n204 : Int)), (13, .int .i64 (ko : Int)), (14, pt p247 0), (97, .bool false)]) (by first | (rw [hb282]; done) | (rw [hb282]; rfl)) ?_
            refine GL.run (j := 3) 1 [0, 2, 4, 5, 6, 11, 13, 14, 97, 98] [(0, .slice A xs.length c), (2, pt p3 0), (4, pt p9 0), (5, pt p31 0), (6, .int .i64 (n42 : Int)), (11, .int .i64 (n204 : Int)), (13, .int .i64 (ko : Int)), (14, pt p247 0), (97, .bool false), (98, pt p247 0)] (by kernel_rfl) rfl ?_
            refine GL.sem (j := 4) (H279.ld (o := 0) (ty := 31) (v := .int .u64 (((getB v234) : Nat) : Int)) 5 rfl (by kernel_rfl) rfl) [0, 2, 4, 5, 6, 11, 13, 14, 97, 99] [(0, .slice A xs.length c), (2, pt p3 0), (4, pt p9 0), (5, pt p31 0), (6, .int .i64 (n42 : Int)), (11, .int .i64 (n204 : Int)), (13, .int .i64 (ko : Int)), (14, pt p247 0), (97, .bool false), (99, .int .u64 (((getB v234) : Nat) : Int))] (by kernel_rfl) (by kernel_rfl) rfl ?_
            refine GL.run (j := 7) 3 [0, 2, 4, 5, 6, 11, 12, 13, 14] [(0, .slice A xs.length c), (2, pt p3 0), (4, pt p9 0), (5, pt p31 0), (6, .int .i64 (n42 : Int)), (11, .int .i64 (n204 : Int)), (12, .bool (decide (4611686018427387904 < (((getB v234) : Nat) : Int)))), (13, .int .i64 (ko : Int)), (14, pt p247 0)] (by kernel_rfl) rfl ?_
            refine GL.k rfl hK281 (fun _ _ h => h) ?_
            refine G.region ?_
            refine GL.run (j := 1) 1 [0, 2, 4, 5, 6, 11, 12, 13, 14, 102] [(0, .slice A xs.length c), (2, pt p3 0), (4, pt p9 0), (5, pt p31 0), (6, .int .i64 (n42 : Int)), (11, .int .i64 (n204 : Int)), (12, .bool (decide (4611686018427387904 < (((getB v234) : Nat) : Int)))), (13, .int .i64 (ko : Int)), (14, pt p247 0), (102, pt p31 3)] (by kernel_rfl) rfl ?_
            refine GL.sem (j := 2) (H279.ld (o := 3) (ty := 62) (v := .slice Ao ko co) 2 rfl (by kernel_rfl) rfl) [0, 2, 4, 5, 6, 11, 12, 13, 14, 103] [(0, .slice A xs.length c), (2, pt p3 0), (4, pt p9 0), (5, pt p31 0), (6, .int .i64 (n42 : Int)), (11, .int .i64 (n204 : Int)), (12, .bool (decide (4611686018427387904 < (((getB v234) : Nat) : Int)))), (13, .int .i64 (ko : Int)), (14, pt p247 0), (103, .slice Ao ko co)] (by kernel_rfl) (by kernel_rfl) rfl ?_
            refine GL.sem (j := 3) (H279.ldA (o := 0) (ty := 91) (m := 2) (sub := [.int .u64 (((getB v234) : Nat) : Int), .string (strOf v267)]) 5 rfl (by kernel_rfl) rfl rfl) [0, 2, 4, 5, 6, 11, 12, 13, 103, 104] [(0, .slice A xs.length c), (2, pt p3 0), (4, pt p9 0), (5, pt p31 0), (6, .int .i64 (n42 : Int)), (11, .int .i64 (n204 : Int)), (12, .bool (decide (4611686018427387904 < (((getB v234) : Nat) : Int)))), (13, .int .i64 (ko : Int)), (103, .slice Ao ko co), (104, .agg #[.int .u64 (((getB v234) : Nat) : Int), .string (strOf v267)])] (by kernel_rfl) (by kernel_rfl) rfl ?_
            obtain ⟨p283, w284, r285, H286⟩ := H279.made (P := Try.prog) (Instr.buildSlice 62 1 #[(0, .agg #[.int .u64 (((getB v234) : Nat) : Int), .string (strOf v267)])]) (fun b_ => .slice (some ⟨b_, 0, none⟩) 1 1) [.int .u64 (((getB v234) : Nat) : Int), .string (strOf v267)] 91 (by kernel_rfl)
            have H286 : Hp w [] [.blk p9 [.slice A xs.length c, .int .i64 (at270 : Int), .bool z265] 96, .blk p3 [.int .u64 0, .int .u64 0, .slice none 0 0, .slice none 0 0] 64, .blk p31 [.int .u64 (((getB v17) : Nat) : Int), .int .u64 0, .slice Ai_ ins.length ci_, .slice Ao ko co] 64, .row Ai_ ins.length ci_ 89 35 (insR ins), .row Ao ko co 91 2 (outsR outs), .blk p247 [.int .u64 (((getB v234) : Nat) : Int), .string (strOf v267)] 91, .blk p283 [.int .u64 (((getB v234) : Nat) : Int), .string (strOf v267)] 91] w284 := H286
            refine GL.sem (j := 4) (r285) [0, 2, 4, 5, 6, 11, 12, 13, 103, 105] [(0, .slice A xs.length c), (2, pt p3 0), (4, pt p9 0), (5, pt p31 0), (6, .int .i64 (n42 : Int)), (11, .int .i64 (n204 : Int)), (12, .bool (decide (4611686018427387904 < (((getB v234) : Nat) : Int)))), (13, .int .i64 (ko : Int)), (103, .slice Ao ko co), (105, .slice (some ⟨p283, 0, none⟩) 1 1)] (by kernel_rfl) (by kernel_rfl) rfl ?_
            obtain ⟨A287, c288, w289, r290, H291⟩ := H286.append (P := Try.prog) (e := 91) (sz := 2) (by_ := 24) (n := ko) (c := co) (m := 1) (d := 1) (t := 62) (ty := 62) (xs := outsR outs) (news := [.int .u64 (((getB v234) : Nat) : Int), .string (strOf v267)]) 4 rfl (by kernel_rfl) (H286.rdBlk (o := 0) (xs := [.int .u64 (((getB v234) : Nat) : Int), .string (strOf v267)]) 6 2 rfl rfl) (by simp) (by simp [Value.oneCell']) (by omega) (by simp only [maxLen]; omega)
            have H291 : Hp w [] [.blk p9 [.slice A xs.length c, .int .i64 (at270 : Int), .bool z265] 96, .blk p3 [.int .u64 0, .int .u64 0, .slice none 0 0, .slice none 0 0] 64, .blk p31 [.int .u64 (((getB v17) : Nat) : Int), .int .u64 0, .slice Ai_ ins.length ci_, .slice Ao ko co] 64, .row Ai_ ins.length ci_ 89 35 (insR ins), .row A287 (ko + 1) c288 91 2 (outsR outs ++ [.int .u64 (((getB v234) : Nat) : Int), .string (strOf v267)]), .blk p247 [.int .u64 (((getB v234) : Nat) : Int), .string (strOf v267)] 91, .blk p283 [.int .u64 (((getB v234) : Nat) : Int), .string (strOf v267)] 91] w289 := H291
            refine GL.sem (j := 5) (r290) [0, 2, 4, 5, 6, 11, 12, 13, 106] [(0, .slice A xs.length c), (2, pt p3 0), (4, pt p9 0), (5, pt p31 0), (6, .int .i64 (n42 : Int)), (11, .int .i64 (n204 : Int)), (12, .bool (decide (4611686018427387904 < (((getB v234) : Nat) : Int)))), (13, .int .i64 (ko : Int)), (106, .slice A287 (ko + 1) c288)] (by kernel_rfl) (by kernel_rfl) rfl ?_
            refine GL.run (j := 6) 1 [0, 2, 4, 5, 6, 11, 12, 13, 106, 107] [(0, .slice A xs.length c), (2, pt p3 0), (4, pt p9 0), (5, pt p31 0), (6, .int .i64 (n42 : Int)), (11, .int .i64 (n204 : Int)), (12, .bool (decide (4611686018427387904 < (((getB v234) : Nat) : Int)))), (13, .int .i64 (ko : Int)), (106, .slice A287 (ko + 1) c288), (107, pt p31 3)] (by kernel_rfl) rfl ?_
            obtain ⟨w292, r293, H294⟩ := H291.st (P := Try.prog) (o := 3) (ty := 62) (v := .slice A287 (ko + 1) c288) 2 rfl (by kernel_rfl) (by simp) rfl
            have H294 : Hp w [] [.blk p9 [.slice A xs.length c, .int .i64 (at270 : Int), .bool z265] 96, .blk p3 [.int .u64 0, .int .u64 0, .slice none 0 0, .slice none 0 0] 64, .blk p31 [.int .u64 (((getB v17) : Nat) : Int), .int .u64 0, .slice Ai_ ins.length ci_, .slice A287 (ko + 1) c288] 64, .row Ai_ ins.length ci_ 89 35 (insR ins), .row A287 (ko + 1) c288 91 2 (outsR outs ++ [.int .u64 (((getB v234) : Nat) : Int), .string (strOf v267)]), .blk p247 [.int .u64 (((getB v234) : Nat) : Int), .string (strOf v267)] 91, .blk p283 [.int .u64 (((getB v234) : Nat) : Int), .string (strOf v267)] 91] w292 := H294
            refine GL.semU (j := 7) r293 [0, 2, 4, 5, 6, 11, 12, 13] [(0, .slice A xs.length c), (2, pt p3 0), (4, pt p9 0), (5, pt p31 0), (6, .int .i64 (n42 : Int)), (11, .int .i64 (n204 : Int)), (12, .bool (decide (4611686018427387904 < (((getB v234) : Nat) : Int)))), (13, .int .i64 (ko : Int))] (by kernel_rfl) rfl rfl rfl ?_
            refine GL.k rfl hK229 (fun _ _ h => h) ?_
            refine G.region ?_
            refine GL.run (j := 3) 3 [0, 2, 4, 5, 6, 11, 12, 13] [(0, .slice A xs.length c), (2, pt p3 0), (4, pt p9 0), (5, pt p31 0), (6, .int .i64 (n42 : Int)), (11, .int .i64 (n204 : Int)), (12, .bool (decide (4611686018427387904 < (((getB v234) : Nat) : Int)))), (13, .int .i64 (IntKind.i64.wrap ((ko : Int) + 1)))] (by kernel_rfl) rfl ?_
            have e295 : (IntKind.i64.wrap ((ko : Int) + 1)) = ((ko + 1 : Nat) : Int) := by rw [in_i64 (by omega)]; omega
            refine GL.eq (M' := [(0, .slice A xs.length c), (2, pt p3 0), (4, pt p9 0), (5, pt p31 0), (6, .int .i64 (n42 : Int)), (11, .int .i64 (n204 : Int)), (12, .bool (decide (4611686018427387904 < (((getB v234) : Nat) : Int)))), (13, .int .i64 ((ko + 1 : Nat) : Int))]) (by rw [e295]) ?_
            clear e295
            obtain ⟨x296, hx297⟩ : ∃ x_ : TOut, x_ = ⟨getB v234, none, v267, 0⟩ := ⟨_, rfl⟩
            have hkx296 : VOut x296 := by rw [hx297]; exact ⟨hbv234, Nat.le_trans hlv267 hln258⟩
            have H298 : Hp w [] [.blk p9 [.slice A xs.length c, .int .i64 (at270 : Int), .bool z265] 96, .blk p3 [.int .u64 0, .int .u64 0, .slice none 0 0, .slice none 0 0] 64, .blk p31 [.int .u64 (((getB v17) : Nat) : Int), .int .u64 0, .slice Ai_ ins.length ci_, .slice A287 (ko + 1) c288] 64, .row Ai_ ins.length ci_ 89 35 (insR ins), .row A287 (ko + 1) c288 91 2 (outsR outs ++ [.int .u64 (((getB v234) : Nat) : Int), .string (strOf v267)])] w292 := H294.sub (List.Sublist.cons_cons _ (List.Sublist.cons_cons _ (List.Sublist.cons_cons _ (List.Sublist.cons_cons _ (List.Sublist.cons_cons _ (List.Sublist.cons _ (List.Sublist.cons _ (List.Sublist.slnil))))))))
            have H299 := (Hp.reorder (L' := [.blk p9 [.slice A xs.length c, .int .i64 (at270 : Int), .bool z265] 96, .blk p3 [.int .u64 0, .int .u64 0, .slice none 0 0, .slice none 0 0] 64, .blk p31 [.int .u64 (((getB v17) : Nat) : Int), .int .u64 0, .slice Ai_ ins.length ci_, .slice A287 (ko + 1) c288] 64, .row Ai_ ins.length ci_ 89 35 (insR ins), .row A287 (ko + 1) c288 91 2 (outsR outs ++ [.int .u64 (((getB v234) : Nat) : Int), .string (strOf v267)])]) H298 (List.Perm.refl _))
            have H300 : Hp w [] [.blk p9 [.slice A xs.length c, .int .i64 (at270 : Int), .bool z265] 96, .blk p3 [.int .u64 0, .int .u64 0, .slice none 0 0, .slice none 0 0] 64, .blk p31 [.int .u64 (((getB v17) : Nat) : Int), .int .u64 0, .slice Ai_ ins.length ci_, .slice A287 (ko + 1) c288] 64, .row Ai_ ins.length ci_ 89 35 (insR ins), .row A287 (ko + 1) c288 91 2 (outsR (outs ++ [x296]))] w292 := by rw [outsR_app, hx297]; exact H299
            have hR301 : RdOut zo qo z265 q266 x296 := ⟨_, _, _, hz232, hq233, hv234, by rw [hz265, hz256, hq257, hn258]; rfl, by rw [hq266, hz256, hq257, hn258]; rfl, by rw [hx297, hv267, hz256, hq257, hn258]; rfl, by rw [hx297]⟩
            refine GL.fit (ts := [0, 2, 4, 5, 6, 11, 12, 13]) (M' := [(0, .slice A xs.length c), (2, pt p3 0), (4, pt p9 0), (5, pt p31 0), (6, .int .i64 (n42 : Int)), (11, .int .i64 (n204 : Int)), (12, .bool (decide (4611686018427387904 < (((getB v234) : Nat) : Int)))), (13, .int .i64 ((ko + 1 : Nat) : Int))]) (by kernel_rfl) ?_
            refine GL.eq (M' := [(0, .slice A xs.length c), (2, pt p3 0), (4, pt p9 0), (5, pt p31 0), (6, .int .i64 (n42 : Int)), (11, .int .i64 (n204 : Int)), (12, .bool (decide (4611686018427387904 < (((getB v234) : Nat) : Int)))), (13, .int .i64 (((ko + 1) : Nat) : Int))]) (by rfl) ?_
            exact GL.again ⟨(ko + 1), z265, q266, at270, A287, c288, (outs ++ [x296]), (decide (4611686018427387904 < (((getB v234) : Nat) : Int)))⟩ [0, 2, 4, 5, 6, 11, 12, 13] rfl (by kernel_rfl) (by show n204 - (ko + 1) < n204 - ko; omega) ⟨⟨⟨by omega, hoL.step (by omega) hR301.back (fun y_ T_ hV_ hz_ hq_ => ⟨(hR301.on_ hz_ hq_ hV_).1, (hR301.on_ hz_ hq_ hV_).2.1, (hR301.on_ hz_ hq_ hV_).2.2.1⟩)⟩, (fun y_ hy_ => by rcases List.mem_append.1 hy_ with h_ | h_; exact hoV y_ h_; simp only [List.mem_cons, List.not_mem_nil, or_false] at h_; rw [h_]; exact hkx296), hqa273, hat272, ov_no (y := x296) hov hb282 (by rw [hx297])⟩, H300⟩
          · skip
            refine GL.eq (M' := [(0, .slice A xs.length c), (2, pt p3 0), (4, pt p9 0), (5, pt p31 0), (6, .int .i64 (n42 : Int)), (11, .int .i64 (n204 : Int)), (13, .int .i64 (ko : Int)), (14, pt p247 0), (97, .bool true)]) (by first | (rw [hb282]; done) | (rw [hb282]; rfl)) ?_
            refine GL.run (j := 7) 5 [0, 2, 4, 5, 6, 11, 12, 13, 14] [(0, .slice A xs.length c), (2, pt p3 0), (4, pt p9 0), (5, pt p31 0), (6, .int .i64 (n42 : Int)), (11, .int .i64 (n204 : Int)), (12, .bool true), (13, .int .i64 (ko : Int)), (14, pt p247 0)] (by kernel_rfl) rfl ?_
            refine GL.k rfl hK281 (fun _ _ h => h) ?_
            refine G.region ?_
            refine GL.run (j := 1) 1 [0, 2, 4, 5, 6, 11, 12, 13, 14, 102] [(0, .slice A xs.length c), (2, pt p3 0), (4, pt p9 0), (5, pt p31 0), (6, .int .i64 (n42 : Int)), (11, .int .i64 (n204 : Int)), (12, .bool true), (13, .int .i64 (ko : Int)), (14, pt p247 0), (102, pt p31 3)] (by kernel_rfl) rfl ?_
            refine GL.sem (j := 2) (H279.ld (o := 3) (ty := 62) (v := .slice Ao ko co) 2 rfl (by kernel_rfl) rfl) [0, 2, 4, 5, 6, 11, 12, 13, 14, 103] [(0, .slice A xs.length c), (2, pt p3 0), (4, pt p9 0), (5, pt p31 0), (6, .int .i64 (n42 : Int)), (11, .int .i64 (n204 : Int)), (12, .bool true), (13, .int .i64 (ko : Int)), (14, pt p247 0), (103, .slice Ao ko co)] (by kernel_rfl) (by kernel_rfl) rfl ?_
            refine GL.sem (j := 3) (H279.ldA (o := 0) (ty := 91) (m := 2) (sub := [.int .u64 (((getB v234) : Nat) : Int), .string (strOf v267)]) 5 rfl (by kernel_rfl) rfl rfl) [0, 2, 4, 5, 6, 11, 12, 13, 103, 104] [(0, .slice A xs.length c), (2, pt p3 0), (4, pt p9 0), (5, pt p31 0), (6, .int .i64 (n42 : Int)), (11, .int .i64 (n204 : Int)), (12, .bool true), (13, .int .i64 (ko : Int)), (103, .slice Ao ko co), (104, .agg #[.int .u64 (((getB v234) : Nat) : Int), .string (strOf v267)])] (by kernel_rfl) (by kernel_rfl) rfl ?_
            obtain ⟨p302, w303, r304, H305⟩ := H279.made (P := Try.prog) (Instr.buildSlice 62 1 #[(0, .agg #[.int .u64 (((getB v234) : Nat) : Int), .string (strOf v267)])]) (fun b_ => .slice (some ⟨b_, 0, none⟩) 1 1) [.int .u64 (((getB v234) : Nat) : Int), .string (strOf v267)] 91 (by kernel_rfl)
            have H305 : Hp w [] [.blk p9 [.slice A xs.length c, .int .i64 (at270 : Int), .bool z265] 96, .blk p3 [.int .u64 0, .int .u64 0, .slice none 0 0, .slice none 0 0] 64, .blk p31 [.int .u64 (((getB v17) : Nat) : Int), .int .u64 0, .slice Ai_ ins.length ci_, .slice Ao ko co] 64, .row Ai_ ins.length ci_ 89 35 (insR ins), .row Ao ko co 91 2 (outsR outs), .blk p247 [.int .u64 (((getB v234) : Nat) : Int), .string (strOf v267)] 91, .blk p302 [.int .u64 (((getB v234) : Nat) : Int), .string (strOf v267)] 91] w303 := H305
            refine GL.sem (j := 4) (r304) [0, 2, 4, 5, 6, 11, 12, 13, 103, 105] [(0, .slice A xs.length c), (2, pt p3 0), (4, pt p9 0), (5, pt p31 0), (6, .int .i64 (n42 : Int)), (11, .int .i64 (n204 : Int)), (12, .bool true), (13, .int .i64 (ko : Int)), (103, .slice Ao ko co), (105, .slice (some ⟨p302, 0, none⟩) 1 1)] (by kernel_rfl) (by kernel_rfl) rfl ?_
            obtain ⟨A306, c307, w308, r309, H310⟩ := H305.append (P := Try.prog) (e := 91) (sz := 2) (by_ := 24) (n := ko) (c := co) (m := 1) (d := 1) (t := 62) (ty := 62) (xs := outsR outs) (news := [.int .u64 (((getB v234) : Nat) : Int), .string (strOf v267)]) 4 rfl (by kernel_rfl) (H305.rdBlk (o := 0) (xs := [.int .u64 (((getB v234) : Nat) : Int), .string (strOf v267)]) 6 2 rfl rfl) (by simp) (by simp [Value.oneCell']) (by omega) (by simp only [maxLen]; omega)
            have H310 : Hp w [] [.blk p9 [.slice A xs.length c, .int .i64 (at270 : Int), .bool z265] 96, .blk p3 [.int .u64 0, .int .u64 0, .slice none 0 0, .slice none 0 0] 64, .blk p31 [.int .u64 (((getB v17) : Nat) : Int), .int .u64 0, .slice Ai_ ins.length ci_, .slice Ao ko co] 64, .row Ai_ ins.length ci_ 89 35 (insR ins), .row A306 (ko + 1) c307 91 2 (outsR outs ++ [.int .u64 (((getB v234) : Nat) : Int), .string (strOf v267)]), .blk p247 [.int .u64 (((getB v234) : Nat) : Int), .string (strOf v267)] 91, .blk p302 [.int .u64 (((getB v234) : Nat) : Int), .string (strOf v267)] 91] w308 := H310
            refine GL.sem (j := 5) (r309) [0, 2, 4, 5, 6, 11, 12, 13, 106] [(0, .slice A xs.length c), (2, pt p3 0), (4, pt p9 0), (5, pt p31 0), (6, .int .i64 (n42 : Int)), (11, .int .i64 (n204 : Int)), (12, .bool true), (13, .int .i64 (ko : Int)), (106, .slice A306 (ko + 1) c307)] (by kernel_rfl) (by kernel_rfl) rfl ?_
            refine GL.run (j := 6) 1 [0, 2, 4, 5, 6, 11, 12, 13, 106, 107] [(0, .slice A xs.length c), (2, pt p3 0), (4, pt p9 0), (5, pt p31 0), (6, .int .i64 (n42 : Int)), (11, .int .i64 (n204 : Int)), (12, .bool true), (13, .int .i64 (ko : Int)), (106, .slice A306 (ko + 1) c307), (107, pt p31 3)] (by kernel_rfl) rfl ?_
            obtain ⟨w311, r312, H313⟩ := H310.st (P := Try.prog) (o := 3) (ty := 62) (v := .slice A306 (ko + 1) c307) 2 rfl (by kernel_rfl) (by simp) rfl
            have H313 : Hp w [] [.blk p9 [.slice A xs.length c, .int .i64 (at270 : Int), .bool z265] 96, .blk p3 [.int .u64 0, .int .u64 0, .slice none 0 0, .slice none 0 0] 64, .blk p31 [.int .u64 (((getB v17) : Nat) : Int), .int .u64 0, .slice Ai_ ins.length ci_, .slice A306 (ko + 1) c307] 64, .row Ai_ ins.length ci_ 89 35 (insR ins), .row A306 (ko + 1) c307 91 2 (outsR outs ++ [.int .u64 (((getB v234) : Nat) : Int), .string (strOf v267)]), .blk p247 [.int .u64 (((getB v234) : Nat) : Int), .string (strOf v267)] 91, .blk p302 [.int .u64 (((getB v234) : Nat) : Int), .string (strOf v267)] 91] w311 := H313
            refine GL.semU (j := 7) r312 [0, 2, 4, 5, 6, 11, 12, 13] [(0, .slice A xs.length c), (2, pt p3 0), (4, pt p9 0), (5, pt p31 0), (6, .int .i64 (n42 : Int)), (11, .int .i64 (n204 : Int)), (12, .bool true), (13, .int .i64 (ko : Int))] (by kernel_rfl) rfl rfl rfl ?_
            refine GL.k rfl hK229 (fun _ _ h => h) ?_
            refine G.region ?_
            refine GL.run (j := 3) 3 [0, 2, 4, 5, 6, 11, 12, 13] [(0, .slice A xs.length c), (2, pt p3 0), (4, pt p9 0), (5, pt p31 0), (6, .int .i64 (n42 : Int)), (11, .int .i64 (n204 : Int)), (12, .bool true), (13, .int .i64 (IntKind.i64.wrap ((ko : Int) + 1)))] (by kernel_rfl) rfl ?_
            have e314 : (IntKind.i64.wrap ((ko : Int) + 1)) = ((ko + 1 : Nat) : Int) := by rw [in_i64 (by omega)]; omega
            refine GL.eq (M' := [(0, .slice A xs.length c), (2, pt p3 0), (4, pt p9 0), (5, pt p31 0), (6, .int .i64 (n42 : Int)), (11, .int .i64 (n204 : Int)), (12, .bool true), (13, .int .i64 ((ko + 1 : Nat) : Int))]) (by rw [e314]) ?_
            clear e314
            obtain ⟨x315, hx316⟩ : ∃ x_ : TOut, x_ = ⟨getB v234, none, v267, 0⟩ := ⟨_, rfl⟩
            have hkx315 : VOut x315 := by rw [hx316]; exact ⟨hbv234, Nat.le_trans hlv267 hln258⟩
            have H317 : Hp w [] [.blk p9 [.slice A xs.length c, .int .i64 (at270 : Int), .bool z265] 96, .blk p3 [.int .u64 0, .int .u64 0, .slice none 0 0, .slice none 0 0] 64, .blk p31 [.int .u64 (((getB v17) : Nat) : Int), .int .u64 0, .slice Ai_ ins.length ci_, .slice A306 (ko + 1) c307] 64, .row Ai_ ins.length ci_ 89 35 (insR ins), .row A306 (ko + 1) c307 91 2 (outsR outs ++ [.int .u64 (((getB v234) : Nat) : Int), .string (strOf v267)])] w311 := H313.sub (List.Sublist.cons_cons _ (List.Sublist.cons_cons _ (List.Sublist.cons_cons _ (List.Sublist.cons_cons _ (List.Sublist.cons_cons _ (List.Sublist.cons _ (List.Sublist.cons _ (List.Sublist.slnil))))))))
            have H318 := (Hp.reorder (L' := [.blk p9 [.slice A xs.length c, .int .i64 (at270 : Int), .bool z265] 96, .blk p3 [.int .u64 0, .int .u64 0, .slice none 0 0, .slice none 0 0] 64, .blk p31 [.int .u64 (((getB v17) : Nat) : Int), .int .u64 0, .slice Ai_ ins.length ci_, .slice A306 (ko + 1) c307] 64, .row Ai_ ins.length ci_ 89 35 (insR ins), .row A306 (ko + 1) c307 91 2 (outsR outs ++ [.int .u64 (((getB v234) : Nat) : Int), .string (strOf v267)])]) H317 (List.Perm.refl _))
            have H319 : Hp w [] [.blk p9 [.slice A xs.length c, .int .i64 (at270 : Int), .bool z265] 96, .blk p3 [.int .u64 0, .int .u64 0, .slice none 0 0, .slice none 0 0] 64, .blk p31 [.int .u64 (((getB v17) : Nat) : Int), .int .u64 0, .slice Ai_ ins.length ci_, .slice A306 (ko + 1) c307] 64, .row Ai_ ins.length ci_ 89 35 (insR ins), .row A306 (ko + 1) c307 91 2 (outsR (outs ++ [x315]))] w311 := by rw [outsR_app, hx316]; exact H318
            have hR320 : RdOut zo qo z265 q266 x315 := ⟨_, _, _, hz232, hq233, hv234, by rw [hz265, hz256, hq257, hn258]; rfl, by rw [hq266, hz256, hq257, hn258]; rfl, by rw [hx316, hv267, hz256, hq257, hn258]; rfl, by rw [hx316]⟩
            refine GL.fit (ts := [0, 2, 4, 5, 6, 11, 12, 13]) (M' := [(0, .slice A xs.length c), (2, pt p3 0), (4, pt p9 0), (5, pt p31 0), (6, .int .i64 (n42 : Int)), (11, .int .i64 (n204 : Int)), (12, .bool true), (13, .int .i64 ((ko + 1 : Nat) : Int))]) (by kernel_rfl) ?_
            refine GL.eq (M' := [(0, .slice A xs.length c), (2, pt p3 0), (4, pt p9 0), (5, pt p31 0), (6, .int .i64 (n42 : Int)), (11, .int .i64 (n204 : Int)), (12, .bool true), (13, .int .i64 (((ko + 1) : Nat) : Int))]) (by rfl) ?_
            exact GL.again ⟨(ko + 1), z265, q266, at270, A306, c307, (outs ++ [x315]), true⟩ [0, 2, 4, 5, 6, 11, 12, 13] rfl (by kernel_rfl) (by show n204 - (ko + 1) < n204 - ko; omega) ⟨⟨⟨by omega, hoL.step (by omega) hR320.back (fun y_ T_ hV_ hz_ hq_ => ⟨(hR320.on_ hz_ hq_ hV_).1, (hR320.on_ hz_ hq_ hV_).2.1, (hR320.on_ hz_ hq_ hV_).2.2.1⟩)⟩, (fun y_ hy_ => by rcases List.mem_append.1 hy_ with h_ | h_; exact hoV y_ h_; simp only [List.mem_cons, List.not_mem_nil, or_false] at h_; rw [h_]; exact hkx315), hqa273, hat272, ov_yes hov hb282⟩, H319⟩
        · skip
          refine G.eq (M' := [(0, .slice A xs.length c), (2, pt p3 0), (4, pt p9 0), (5, pt p31 0), (6, .int .i64 (n42 : Int)), (11, .int .i64 (n204 : Int)), (12, .bool ov), (13, .int .i64 (ko : Int)), (83, .bool false)]) (by first | (rw [hb227]; done) | (rw [hb227]; rfl)) ?_
          refine G.no rfl ?_
          refine G.exitK hK215 (fun _ _ h => h) ?_
          subst hoLl
          have hdn := hoL.done (.inr (by assumption))
          refine G.fit [0, 2, 4, 5, 6, 11, 12] (M' := [(0, .slice A xs.length c), (2, pt p3 0), (4, pt p9 0), (5, pt p31 0), (6, .int .i64 (n42 : Int)), (11, .int .i64 (n204 : Int)), (12, .bool ov)]) (by kernel_rfl) ?_
          exact J213 ⟨zo, qo, ato, Ao, co, outs, ov⟩ _ ⟨⟨hdn, hoV, hoq, hoat, hov⟩, H221⟩
    · skip
      rintro ⟨zo_, qo_, ato_, Ao_, co_, outs, ov⟩ w321 ⟨hi322, H323⟩
      refine G.eq (M' := [(0, .slice A xs.length c), (2, pt p3 0), (4, pt p9 0), (5, pt p31 0), (6, .int .i64 (n42 : Int)), (11, .int .i64 (n204 : Int)), (12, .bool ov)]) rfl ?_
      have H323 : Hp w [] [.blk p9 [.slice A xs.length c, .int .i64 (ato_ : Int), .bool zo_] 96, .blk p3 [.int .u64 0, .int .u64 0, .slice none 0 0, .slice none 0 0] 64, .blk p31 [.int .u64 (((getB v17) : Nat) : Int), .int .u64 0, .slice Ai_ ins.length ci_, .slice Ao_ outs.length co_] 64, .row Ai_ ins.length ci_ 89 35 (insR ins), .row Ao_ outs.length co_ 91 2 (outsR outs)] w321 := H323
      obtain ⟨hoP, hoV, hoq_, hoat_, hov⟩ := hi322
      refine G.seqK fun K324 hK325 => ?_
      refine G.region ?_
      refine GL.run (j := 1) 1 [0, 2, 4, 5, 6, 11, 12, 108] [(0, .slice A xs.length c), (2, pt p3 0), (4, pt p9 0), (5, pt p31 0), (6, .int .i64 (n42 : Int)), (11, .int .i64 (n204 : Int)), (12, .bool ov), (108, pt p9 0)] (by kernel_rfl) rfl ?_
      obtain ⟨z326, hz326⟩ : ∃ z_ : Bool, z_ = (!(rOK zo_ qo_ 4)) := ⟨_, rfl⟩
      obtain ⟨q327, hq327⟩ : ∃ q_ : List UInt8, q_ = rR zo_ qo_ 4 := ⟨_, rfl⟩
      obtain ⟨v328, hv328⟩ : ∃ v_ : List UInt8, v_ = rV zo_ qo_ 4 := ⟨_, rfl⟩
      have hlv328 : v328.length ≤ 4 := by rw [hv328]; exact rV_le _ _ _
      have hbv328 : getB v328 < 4294967296 := Nat.lt_of_lt_of_le (getB_lt v328) (Nat.le_trans (Nat.pow_le_pow_right (by decide) hlv328) (by decide))
      refine GL.call (j := 2) (CTake_calls (ids [.blk p9 [.slice A xs.length c, .int .i64 (ato_ : Int), .bool zo_] 96]) p9 A xs c ato_ zo_ qo_ 4 w321 (Hp.startL (A := [.blk p9 [.slice A xs.length c, .int .i64 (ato_ : Int), .bool zo_] 96]) (B := [.blk p3 [.int .u64 0, .int .u64 0, .slice none 0 0, .slice none 0 0] 64, .blk p31 [.int .u64 (((getB v17) : Nat) : Int), .int .u64 0, .slice Ai_ ins.length ci_, .slice Ao_ outs.length co_] 64, .row Ai_ ins.length ci_ 89 35 (insR ins), .row Ao_ outs.length co_ 91 2 (outsR outs)]) H323) ((RdO.of hx).mid (A' := [.blk p9 [.slice A xs.length c, .int .i64 (ato_ : Int), .bool zo_] 96]) (B' := [.blk p3 [.int .u64 0, .int .u64 0, .slice none 0 0, .slice none 0 0] 64, .blk p31 [.int .u64 (((getB v17) : Nat) : Int), .int .u64 0, .slice Ai_ ins.length ci_, .slice Ao_ outs.length co_] 64, .row Ai_ ins.length ci_ 89 35 (insR ins), .row Ao_ outs.length co_ 91 2 (outsR outs)]) H323) (hoq_) (hoat_) hc hb (by omega)) (by kernel_rfl) rfl (fun e_ w335 hR => ?_)
      obtain ⟨A329, c330, at331, rfl, H337, hC332, hat333, hqa334⟩ := hR
      simp only [← hz326, ← hq327, ← hv328] at H337 hC332 hqa334 ⊢
      have H336 : Hp w [] [.blk p9 [.slice A xs.length c, .int .i64 (at331 : Int), .bool z326] 96, .blk p3 [.int .u64 0, .int .u64 0, .slice none 0 0, .slice none 0 0] 64, .blk p31 [.int .u64 (((getB v17) : Nat) : Int), .int .u64 0, .slice Ai_ ins.length ci_, .slice Ao_ outs.length co_] 64, .row Ai_ ins.length ci_ 89 35 (insR ins), .row Ao_ outs.length co_ 91 2 (outsR outs)] w335 := Hp.callL (A := [.blk p9 [.slice A xs.length c, .int .i64 (ato_ : Int), .bool zo_] 96]) (B := [.blk p3 [.int .u64 0, .int .u64 0, .slice none 0 0, .slice none 0 0] 64, .blk p31 [.int .u64 (((getB v17) : Nat) : Int), .int .u64 0, .slice Ai_ ins.length ci_, .slice Ao_ outs.length co_] 64, .row Ai_ ins.length ci_ 89 35 (insR ins), .row Ao_ outs.length co_ 91 2 (outsR outs)]) H323 H337
      refine ⟨_, rfl, [0, 2, 4, 5, 6, 11, 12, 109], [(0, .slice A xs.length c), (2, pt p3 0), (4, pt p9 0), (5, pt p31 0), (6, .int .i64 (n42 : Int)), (11, .int .i64 (n204 : Int)), (12, .bool ov), (109, .slice A329 v328.length c330)], by kernel_rfl, ?_⟩
      refine GL.call (j := 3) (RGet_calls v328 A329 v328.length c330 w335 (hC332 _ (hx.hp H336)) (rfl) (by omega)) (by kernel_rfl) rfl (fun e_ w338 hR => ?_)
      obtain ⟨rfl, H340⟩ := hR
      have H339 : Hp w [] [.blk p9 [.slice A xs.length c, .int .i64 (at331 : Int), .bool z326] 96, .blk p3 [.int .u64 0, .int .u64 0, .slice none 0 0, .slice none 0 0] 64, .blk p31 [.int .u64 (((getB v17) : Nat) : Int), .int .u64 0, .slice Ai_ ins.length ci_, .slice Ao_ outs.length co_] 64, .row Ai_ ins.length ci_ 89 35 (insR ins), .row Ao_ outs.length co_ 91 2 (outsR outs)] w338 := H336.callNil H340
      refine ⟨_, rfl, [0, 2, 4, 5, 6, 11, 12, 110], [(0, .slice A xs.length c), (2, pt p3 0), (4, pt p9 0), (5, pt p31 0), (6, .int .i64 (n42 : Int)), (11, .int .i64 (n204 : Int)), (12, .bool ov), (110, .int .u64 (((getB v328) : Nat) : Int))], by kernel_rfl, ?_⟩
      refine GL.run (j := 4) 1 [0, 2, 4, 5, 6, 11, 12, 110, 111] [(0, .slice A xs.length c), (2, pt p3 0), (4, pt p9 0), (5, pt p31 0), (6, .int .i64 (n42 : Int)), (11, .int .i64 (n204 : Int)), (12, .bool ov), (110, .int .u64 (((getB v328) : Nat) : Int)), (111, pt p31 1)] (by kernel_rfl) rfl ?_
      obtain ⟨w341, r342, H343⟩ := H339.st (P := Try.prog) (o := 1) (ty := 31) (v := .int .u64 (((getB v328) : Nat) : Int)) 2 rfl (by kernel_rfl) (by simp) rfl
      have H343 : Hp w [] [.blk p9 [.slice A xs.length c, .int .i64 (at331 : Int), .bool z326] 96, .blk p3 [.int .u64 0, .int .u64 0, .slice none 0 0, .slice none 0 0] 64, .blk p31 [.int .u64 (((getB v17) : Nat) : Int), .int .u64 (((getB v328) : Nat) : Int), .slice Ai_ ins.length ci_, .slice Ao_ outs.length co_] 64, .row Ai_ ins.length ci_ 89 35 (insR ins), .row Ao_ outs.length co_ 91 2 (outsR outs)] w341 := H343
      refine GL.semU (j := 5) r342 [0, 2, 4, 5, 6, 11, 12] [(0, .slice A xs.length c), (2, pt p3 0), (4, pt p9 0), (5, pt p31 0), (6, .int .i64 (n42 : Int)), (11, .int .i64 (n204 : Int)), (12, .bool ov)] (by kernel_rfl) rfl rfl rfl ?_
      refine GL.k rfl hK325 (fun _ _ h => h) ?_
      refine G.seqK fun K344 hK345 => ?_
      refine G.seqK fun K346 hK347 => ?_
      refine G.region ?_
      refine GL.run (j := 3) 3 [0, 2, 4, 5, 6, 11, 12, 114] [(0, .slice A xs.length c), (2, pt p3 0), (4, pt p9 0), (5, pt p31 0), (6, .int .i64 (n42 : Int)), (11, .int .i64 (n204 : Int)), (12, .bool ov), (114, pt p9 2)] (by kernel_rfl) rfl ?_
      refine GL.sem (j := 4) (H343.ld (o := 2) (ty := 4) (v := .bool z326) 0 rfl (by kernel_rfl) rfl) [0, 2, 4, 5, 6, 11, 12, 115] [(0, .slice A xs.length c), (2, pt p3 0), (4, pt p9 0), (5, pt p31 0), (6, .int .i64 (n42 : Int)), (11, .int .i64 (n204 : Int)), (12, .bool ov), (115, .bool z326)] (by kernel_rfl) (by kernel_rfl) rfl ?_
      refine GL.run (j := 5) 1 [0, 2, 4, 5, 6, 11, 12, 116] [(0, .slice A xs.length c), (2, pt p3 0), (4, pt p9 0), (5, pt p31 0), (6, .int .i64 (n42 : Int)), (11, .int .i64 (n204 : Int)), (12, .bool ov), (116, .bool z326)] (by kernel_rfl) rfl ?_
      rcases (Bool.eq_false_or_eq_true z326).symm with hb348 | hb348
      · skip
        refine GL.eq (M' := [(0, .slice A xs.length c), (2, pt p3 0), (4, pt p9 0), (5, pt p31 0), (6, .int .i64 (n42 : Int)), (11, .int .i64 (n204 : Int)), (12, .bool ov), (116, .bool false)]) (by first | (rw [hb348]; done) | (rw [hb348]; rfl)) ?_
        refine GL.run (j := 8) 3 [0, 2, 5, 6, 11, 12, 116, 119] [(0, .slice A xs.length c), (2, pt p3 0), (5, pt p31 0), (6, .int .i64 (n42 : Int)), (11, .int .i64 (n204 : Int)), (12, .bool ov), (116, .bool false), (119, pt p9 1)] (by kernel_rfl) rfl ?_
        refine GL.sem (j := 9) (H343.ld (o := 1) (ty := 3) (v := .int .i64 (at331 : Int)) 0 rfl (by kernel_rfl) rfl) [0, 2, 5, 6, 11, 12, 116, 120] [(0, .slice A xs.length c), (2, pt p3 0), (5, pt p31 0), (6, .int .i64 (n42 : Int)), (11, .int .i64 (n204 : Int)), (12, .bool ov), (116, .bool false), (120, .int .i64 (at331 : Int))] (by kernel_rfl) (by kernel_rfl) rfl ?_
        refine GL.run (j := 14) 5 [0, 2, 5, 6, 11, 12, 125] [(0, .slice A xs.length c), (2, pt p3 0), (5, pt p31 0), (6, .int .i64 (n42 : Int)), (11, .int .i64 (n204 : Int)), (12, .bool ov), (125, .bool ((at331 : Int) != (xs.length : Int)))] (by kernel_rfl) rfl ?_
        cases hb349 : ((at331 : Int) != (xs.length : Int))
        · skip
          have hb349f : (at331 : Int) = (xs.length : Int) := bne_eq_false_iff_eq.1 hb349
          refine GL.run (j := 18) 4 [0, 2, 5, 11, 12, 129] [(0, .slice A xs.length c), (2, pt p3 0), (5, pt p31 0), (11, .int .i64 (n204 : Int)), (12, .bool ov), (129, .bool ((n42 : Int) == 0))] (by kernel_rfl) rfl ?_
          cases hb350 : ((n42 : Int) == 0)
          · skip
            have hb350f := ne_of_beq_false hb350
            refine GL.run (j := 22) 4 [0, 2, 5, 12, 133] [(0, .slice A xs.length c), (2, pt p3 0), (5, pt p31 0), (12, .bool ov), (133, .bool ((n204 : Int) == 0))] (by kernel_rfl) rfl ?_
            cases hb351 : ((n204 : Int) == 0)
            · skip
              have hb351f := ne_of_beq_false hb351
              refine GL.run (j := 25) 3 [0, 2, 5, 136] [(0, .slice A xs.length c), (2, pt p3 0), (5, pt p31 0), (136, .bool ov)] (by kernel_rfl) rfl ?_
              rcases (Bool.eq_false_or_eq_true ov).symm with hb352 | hb352
              · skip
                refine GL.eq (M' := [(0, .slice A xs.length c), (2, pt p3 0), (5, pt p31 0), (136, .bool false)]) (by first | (rw [hb352]; done) | (rw [hb352]; rfl)) ?_
                refine GL.run (j := 30) 5 [0, 2, 5, 141] [(0, .slice A xs.length c), (2, pt p3 0), (5, pt p31 0), (141, .bool (decide (4096 < (xs.length : Int))))] (by kernel_rfl) rfl ?_
                cases hb353 : (decide (4096 < (xs.length : Int)))
                · skip
                  have hb353f := of_decide_eq_false hb353
                  refine GL.run (j := 34) 4 [2, 5, 145] [(2, pt p3 0), (5, pt p31 0), (145, .bool ((xs.length : Int) == 64))] (by kernel_rfl) rfl ?_
                  refine GL.k rfl hK347 (fun _ _ h => h) ?_
                  cases hb354 : ((xs.length : Int) == 64)
                  · skip
                    have hb354f := ne_of_beq_false hb354
                    refine G.no rfl ?_
                    refine G.skipK hK345 (fun _ _ h => h) ?_
                    refine G.seqK fun K355 hK356 => ?_
                    refine G.region ?_
                    refine GL.sem (j := 1) (H343.ldA (o := 0) (ty := 64) (m := 4) (sub := [.int .u64 (((getB v17) : Nat) : Int), .int .u64 (((getB v328) : Nat) : Int), .slice Ai_ ins.length ci_, .slice Ao_ outs.length co_]) 2 rfl (by kernel_rfl) rfl rfl) [2, 147] [(2, pt p3 0), (147, .agg #[.int .u64 (((getB v17) : Nat) : Int), .int .u64 (((getB v328) : Nat) : Int), .slice Ai_ ins.length ci_, .slice Ao_ outs.length co_])] (by kernel_rfl) (by kernel_rfl) rfl ?_
                    obtain ⟨w357, r358, H359⟩ := H343.stA (P := Try.prog) (o := 0) (vs := [.int .u64 (((getB v17) : Nat) : Int), .int .u64 (((getB v328) : Nat) : Int), .slice Ai_ ins.length ci_, .slice Ao_ outs.length co_]) (ty := 64) (m := 4) 1 rfl (by kernel_rfl) rfl (by simp) (by simp [Value.oneCell'])
                    have H359 : Hp w [] [.blk p9 [.slice A xs.length c, .int .i64 (at331 : Int), .bool z326] 96, .blk p3 [.int .u64 (((getB v17) : Nat) : Int), .int .u64 (((getB v328) : Nat) : Int), .slice Ai_ ins.length ci_, .slice Ao_ outs.length co_] 64, .blk p31 [.int .u64 (((getB v17) : Nat) : Int), .int .u64 (((getB v328) : Nat) : Int), .slice Ai_ ins.length ci_, .slice Ao_ outs.length co_] 64, .row Ai_ ins.length ci_ 89 35 (insR ins), .row Ao_ outs.length co_ 91 2 (outsR outs)] w357 := H359
                    refine GL.semU (j := 2) r358 [2] [(2, pt p3 0)] (by kernel_rfl) rfl rfl rfl ?_
                    refine GL.run (j := 3) 1 [2, 3] [(2, pt p3 0), (3, .bool true)] (by kernel_rfl) rfl ?_
                    refine GL.k rfl hK356 (fun _ _ h => h) ?_
                    refine G.ret ?_
                    intro F_ hF_ hM_
                    refine hRet _ _ (bodyPost_2 rfl (RV.cell rfl (H359.ldA (o := 0) (ty := 64) (m := 4) (sub := [.int .u64 (((getB v17) : Nat) : Int), .int .u64 (((getB v328) : Nat) : Int), .slice Ai_ ins.length ci_, .slice Ao_ outs.length co_]) 1 rfl (by kernel_rfl) rfl rfl)) (RV.tmp rfl) ?_ F_ hF_ hM_)
                    have hP : Psd xs (getB v17) ins outs (getB v328) n42 n204 z326 q327 := ⟨_, _, _, _, _, _, _, _, _, _, _, _, hz15, hq16, hv17, hz40, hq41, hn42, hiP, hz202, hq203, hn204, hoP, hz326, hq327, hv328, rfl, rfl⟩
                    have hq0 : q327.length = 0 := by rw [hqa334, hb348]; show (xs.drop at331).length = 0; rw [List.length_drop]; omega
                    obtain ⟨hX, hX1, hX2⟩ := hP.back hb348 hq0
                    have hXl := congrArg List.length hX
                    have hpv : ∀ x ∈ outs, x.pv ≤ 4611686018427387904 := fun x hx => Nat.not_lt.1 fun hp => by have h_ := hov.2 ⟨x, hx, hp⟩; rw [hb352] at h_; cases h_
                    have H360 : Hp w [] [.row Ai_ ins.length ci_ 89 35 (insR ins), .row Ao_ outs.length co_ 91 2 (outsR outs)] w357 := H359.sub (List.Sublist.cons _ (List.Sublist.cons _ (List.Sublist.cons _ (List.Sublist.cons_cons _ (List.Sublist.cons_cons _ (List.Sublist.slnil))))))
                    exact ⟨_, ins, _, _, outs, _, _, _, true, rfl, H360, .inl ⟨rfl, hX, ⟨hbv17, hbv328, hiV, hoV⟩, by omega, by omega, hpv, by omega, by omega⟩⟩
                  · skip
                    have hb354f := eq_of_beq hb354
                    refine G.yes rfl ?_
                    refine G.seqK fun K361 hK362 => ?_
                    refine G.region ?_
                    refine GL.run (j := 1) 1 [2, 146] [(2, pt p3 0), (146, .agg #[.int .u64 0, .int .u64 0, .slice none 0 0, .slice none 0 0])] (by kernel_rfl) rfl ?_
                    obtain ⟨w363, r364, H365⟩ := H343.stA (P := Try.prog) (o := 0) (vs := [.int .u64 0, .int .u64 0, .slice none 0 0, .slice none 0 0]) (ty := 64) (m := 4) 1 rfl (by kernel_rfl) rfl (by simp) (by simp [Value.oneCell'])
                    have H365 : Hp w [] [.blk p9 [.slice A xs.length c, .int .i64 (at331 : Int), .bool z326] 96, .blk p3 [.int .u64 0, .int .u64 0, .slice none 0 0, .slice none 0 0] 64, .blk p31 [.int .u64 (((getB v17) : Nat) : Int), .int .u64 (((getB v328) : Nat) : Int), .slice Ai_ ins.length ci_, .slice Ao_ outs.length co_] 64, .row Ai_ ins.length ci_ 89 35 (insR ins), .row Ao_ outs.length co_ 91 2 (outsR outs)] w363 := H365
                    refine GL.semU (j := 2) r364 [2] [(2, pt p3 0)] (by kernel_rfl) rfl rfl rfl ?_
                    refine GL.run (j := 3) 1 [2, 3] [(2, pt p3 0), (3, .bool false)] (by kernel_rfl) rfl ?_
                    refine GL.k rfl hK362 (fun _ _ h => h) ?_
                    refine G.ret ?_
                    intro F_ hF_ hM_
                    refine hRet _ _ (bodyPost_2 rfl (RV.cell rfl (H365.ldA (o := 0) (ty := 64) (m := 4) (sub := [.int .u64 0, .int .u64 0, .slice none 0 0, .slice none 0 0]) 1 rfl (by kernel_rfl) rfl rfl)) (RV.tmp rfl) ?_ F_ hF_ hM_)
                    have hP : Psd xs (getB v17) ins outs (getB v328) n42 n204 z326 q327 := ⟨_, _, _, _, _, _, _, _, _, _, _, _, hz15, hq16, hv17, hz40, hq41, hn42, hiP, hz202, hq203, hn204, hoP, hz326, hq327, hv328, rfl, rfl⟩
                    have hno : NoTx xs := fun v0 ins0 outs0 lt0 hV he => by
                      obtain ⟨o1, o2, ⟨o3, o4, o5⟩, ⟨o6, o7, o8⟩, o9⟩ := hP.on_ hV he
                      have o10 := hV.2.2.2.2
                      rw [← he] at o10
                      omega
                    exact ⟨0, [], none, 0, [], none, 0, 0, false, rfl, ((H365.sub (List.nil_sublist _)).rowNil 89 35).rowNil 91 2, .inr ⟨rfl, hno⟩⟩
                · skip
                  have hb353f := of_decide_eq_true hb353
                  refine GL.run (j := 34) 4 [2, 5, 145] [(2, pt p3 0), (5, pt p31 0), (145, .bool true)] (by kernel_rfl) rfl ?_
                  refine GL.k rfl hK347 (fun _ _ h => h) ?_
                  refine G.yes rfl ?_
                  refine G.seqK fun K366 hK367 => ?_
                  refine G.region ?_
                  refine GL.run (j := 1) 1 [2, 146] [(2, pt p3 0), (146, .agg #[.int .u64 0, .int .u64 0, .slice none 0 0, .slice none 0 0])] (by kernel_rfl) rfl ?_
                  obtain ⟨w368, r369, H370⟩ := H343.stA (P := Try.prog) (o := 0) (vs := [.int .u64 0, .int .u64 0, .slice none 0 0, .slice none 0 0]) (ty := 64) (m := 4) 1 rfl (by kernel_rfl) rfl (by simp) (by simp [Value.oneCell'])
                  have H370 : Hp w [] [.blk p9 [.slice A xs.length c, .int .i64 (at331 : Int), .bool z326] 96, .blk p3 [.int .u64 0, .int .u64 0, .slice none 0 0, .slice none 0 0] 64, .blk p31 [.int .u64 (((getB v17) : Nat) : Int), .int .u64 (((getB v328) : Nat) : Int), .slice Ai_ ins.length ci_, .slice Ao_ outs.length co_] 64, .row Ai_ ins.length ci_ 89 35 (insR ins), .row Ao_ outs.length co_ 91 2 (outsR outs)] w368 := H370
                  refine GL.semU (j := 2) r369 [2] [(2, pt p3 0)] (by kernel_rfl) rfl rfl rfl ?_
                  refine GL.run (j := 3) 1 [2, 3] [(2, pt p3 0), (3, .bool false)] (by kernel_rfl) rfl ?_
                  refine GL.k rfl hK367 (fun _ _ h => h) ?_
                  refine G.ret ?_
                  intro F_ hF_ hM_
                  refine hRet _ _ (bodyPost_2 rfl (RV.cell rfl (H370.ldA (o := 0) (ty := 64) (m := 4) (sub := [.int .u64 0, .int .u64 0, .slice none 0 0, .slice none 0 0]) 1 rfl (by kernel_rfl) rfl rfl)) (RV.tmp rfl) ?_ F_ hF_ hM_)
                  have hP : Psd xs (getB v17) ins outs (getB v328) n42 n204 z326 q327 := ⟨_, _, _, _, _, _, _, _, _, _, _, _, hz15, hq16, hv17, hz40, hq41, hn42, hiP, hz202, hq203, hn204, hoP, hz326, hq327, hv328, rfl, rfl⟩
                  have hno : NoTx xs := fun v0 ins0 outs0 lt0 hV he => by
                    obtain ⟨o1, o2, ⟨o3, o4, o5⟩, ⟨o6, o7, o8⟩, o9⟩ := hP.on_ hV he
                    have o10 := hV.2.2.2.2
                    rw [← he] at o10
                    omega
                  exact ⟨0, [], none, 0, [], none, 0, 0, false, rfl, ((H370.sub (List.nil_sublist _)).rowNil 89 35).rowNil 91 2, .inr ⟨rfl, hno⟩⟩
              · skip
                refine GL.eq (M' := [(0, .slice A xs.length c), (2, pt p3 0), (5, pt p31 0), (136, .bool true)]) (by first | (rw [hb352]; done) | (rw [hb352]; rfl)) ?_
                refine GL.run (j := 34) 9 [2, 5, 145] [(2, pt p3 0), (5, pt p31 0), (145, .bool true)] (by kernel_rfl) rfl ?_
                refine GL.k rfl hK347 (fun _ _ h => h) ?_
                refine G.yes rfl ?_
                refine G.seqK fun K371 hK372 => ?_
                refine G.region ?_
                refine GL.run (j := 1) 1 [2, 146] [(2, pt p3 0), (146, .agg #[.int .u64 0, .int .u64 0, .slice none 0 0, .slice none 0 0])] (by kernel_rfl) rfl ?_
                obtain ⟨w373, r374, H375⟩ := H343.stA (P := Try.prog) (o := 0) (vs := [.int .u64 0, .int .u64 0, .slice none 0 0, .slice none 0 0]) (ty := 64) (m := 4) 1 rfl (by kernel_rfl) rfl (by simp) (by simp [Value.oneCell'])
                have H375 : Hp w [] [.blk p9 [.slice A xs.length c, .int .i64 (at331 : Int), .bool z326] 96, .blk p3 [.int .u64 0, .int .u64 0, .slice none 0 0, .slice none 0 0] 64, .blk p31 [.int .u64 (((getB v17) : Nat) : Int), .int .u64 (((getB v328) : Nat) : Int), .slice Ai_ ins.length ci_, .slice Ao_ outs.length co_] 64, .row Ai_ ins.length ci_ 89 35 (insR ins), .row Ao_ outs.length co_ 91 2 (outsR outs)] w373 := H375
                refine GL.semU (j := 2) r374 [2] [(2, pt p3 0)] (by kernel_rfl) rfl rfl rfl ?_
                refine GL.run (j := 3) 1 [2, 3] [(2, pt p3 0), (3, .bool false)] (by kernel_rfl) rfl ?_
                refine GL.k rfl hK372 (fun _ _ h => h) ?_
                refine G.ret ?_
                intro F_ hF_ hM_
                refine hRet _ _ (bodyPost_2 rfl (RV.cell rfl (H375.ldA (o := 0) (ty := 64) (m := 4) (sub := [.int .u64 0, .int .u64 0, .slice none 0 0, .slice none 0 0]) 1 rfl (by kernel_rfl) rfl rfl)) (RV.tmp rfl) ?_ F_ hF_ hM_)
                have hP : Psd xs (getB v17) ins outs (getB v328) n42 n204 z326 q327 := ⟨_, _, _, _, _, _, _, _, _, _, _, _, hz15, hq16, hv17, hz40, hq41, hn42, hiP, hz202, hq203, hn204, hoP, hz326, hq327, hv328, rfl, rfl⟩
                have hno : NoTx xs := fun v0 ins0 outs0 lt0 hV he => by
                  obtain ⟨o1, o2, ⟨o3, o4, o5⟩, ⟨o6, o7, o8⟩, o9⟩ := hP.on_ hV he
                  have o10 := hV.2.2.2.2
                  rw [← he] at o10
                  exact (by obtain ⟨x_, hx_, hp_⟩ := hov.1 hb352; have := o9 x_ hx_; omega)
                exact ⟨0, [], none, 0, [], none, 0, 0, false, rfl, ((H375.sub (List.nil_sublist _)).rowNil 89 35).rowNil 91 2, .inr ⟨rfl, hno⟩⟩
            · skip
              have hb351f := eq_of_beq hb351
              refine GL.run (j := 34) 12 [2, 5, 145] [(2, pt p3 0), (5, pt p31 0), (145, .bool true)] (by kernel_rfl) rfl ?_
              refine GL.k rfl hK347 (fun _ _ h => h) ?_
              refine G.yes rfl ?_
              refine G.seqK fun K376 hK377 => ?_
              refine G.region ?_
              refine GL.run (j := 1) 1 [2, 146] [(2, pt p3 0), (146, .agg #[.int .u64 0, .int .u64 0, .slice none 0 0, .slice none 0 0])] (by kernel_rfl) rfl ?_
              obtain ⟨w378, r379, H380⟩ := H343.stA (P := Try.prog) (o := 0) (vs := [.int .u64 0, .int .u64 0, .slice none 0 0, .slice none 0 0]) (ty := 64) (m := 4) 1 rfl (by kernel_rfl) rfl (by simp) (by simp [Value.oneCell'])
              have H380 : Hp w [] [.blk p9 [.slice A xs.length c, .int .i64 (at331 : Int), .bool z326] 96, .blk p3 [.int .u64 0, .int .u64 0, .slice none 0 0, .slice none 0 0] 64, .blk p31 [.int .u64 (((getB v17) : Nat) : Int), .int .u64 (((getB v328) : Nat) : Int), .slice Ai_ ins.length ci_, .slice Ao_ outs.length co_] 64, .row Ai_ ins.length ci_ 89 35 (insR ins), .row Ao_ outs.length co_ 91 2 (outsR outs)] w378 := H380
              refine GL.semU (j := 2) r379 [2] [(2, pt p3 0)] (by kernel_rfl) rfl rfl rfl ?_
              refine GL.run (j := 3) 1 [2, 3] [(2, pt p3 0), (3, .bool false)] (by kernel_rfl) rfl ?_
              refine GL.k rfl hK377 (fun _ _ h => h) ?_
              refine G.ret ?_
              intro F_ hF_ hM_
              refine hRet _ _ (bodyPost_2 rfl (RV.cell rfl (H380.ldA (o := 0) (ty := 64) (m := 4) (sub := [.int .u64 0, .int .u64 0, .slice none 0 0, .slice none 0 0]) 1 rfl (by kernel_rfl) rfl rfl)) (RV.tmp rfl) ?_ F_ hF_ hM_)
              have hP : Psd xs (getB v17) ins outs (getB v328) n42 n204 z326 q327 := ⟨_, _, _, _, _, _, _, _, _, _, _, _, hz15, hq16, hv17, hz40, hq41, hn42, hiP, hz202, hq203, hn204, hoP, hz326, hq327, hv328, rfl, rfl⟩
              have hno : NoTx xs := fun v0 ins0 outs0 lt0 hV he => by
                obtain ⟨o1, o2, ⟨o3, o4, o5⟩, ⟨o6, o7, o8⟩, o9⟩ := hP.on_ hV he
                have o10 := hV.2.2.2.2
                rw [← he] at o10
                omega
              exact ⟨0, [], none, 0, [], none, 0, 0, false, rfl, ((H380.sub (List.nil_sublist _)).rowNil 89 35).rowNil 91 2, .inr ⟨rfl, hno⟩⟩
          · skip
            have hb350f := eq_of_beq hb350
            refine GL.run (j := 34) 16 [2, 5, 145] [(2, pt p3 0), (5, pt p31 0), (145, .bool true)] (by kernel_rfl) rfl ?_
            refine GL.k rfl hK347 (fun _ _ h => h) ?_
            refine G.yes rfl ?_
            refine G.seqK fun K381 hK382 => ?_
            refine G.region ?_
            refine GL.run (j := 1) 1 [2, 146] [(2, pt p3 0), (146, .agg #[.int .u64 0, .int .u64 0, .slice none 0 0, .slice none 0 0])] (by kernel_rfl) rfl ?_
            obtain ⟨w383, r384, H385⟩ := H343.stA (P := Try.prog) (o := 0) (vs := [.int .u64 0, .int .u64 0, .slice none 0 0, .slice none 0 0]) (ty := 64) (m := 4) 1 rfl (by kernel_rfl) rfl (by simp) (by simp [Value.oneCell'])
            have H385 : Hp w [] [.blk p9 [.slice A xs.length c, .int .i64 (at331 : Int), .bool z326] 96, .blk p3 [.int .u64 0, .int .u64 0, .slice none 0 0, .slice none 0 0] 64, .blk p31 [.int .u64 (((getB v17) : Nat) : Int), .int .u64 (((getB v328) : Nat) : Int), .slice Ai_ ins.length ci_, .slice Ao_ outs.length co_] 64, .row Ai_ ins.length ci_ 89 35 (insR ins), .row Ao_ outs.length co_ 91 2 (outsR outs)] w383 := H385
            refine GL.semU (j := 2) r384 [2] [(2, pt p3 0)] (by kernel_rfl) rfl rfl rfl ?_
            refine GL.run (j := 3) 1 [2, 3] [(2, pt p3 0), (3, .bool false)] (by kernel_rfl) rfl ?_
            refine GL.k rfl hK382 (fun _ _ h => h) ?_
            refine G.ret ?_
            intro F_ hF_ hM_
            refine hRet _ _ (bodyPost_2 rfl (RV.cell rfl (H385.ldA (o := 0) (ty := 64) (m := 4) (sub := [.int .u64 0, .int .u64 0, .slice none 0 0, .slice none 0 0]) 1 rfl (by kernel_rfl) rfl rfl)) (RV.tmp rfl) ?_ F_ hF_ hM_)
            have hP : Psd xs (getB v17) ins outs (getB v328) n42 n204 z326 q327 := ⟨_, _, _, _, _, _, _, _, _, _, _, _, hz15, hq16, hv17, hz40, hq41, hn42, hiP, hz202, hq203, hn204, hoP, hz326, hq327, hv328, rfl, rfl⟩
            have hno : NoTx xs := fun v0 ins0 outs0 lt0 hV he => by
              obtain ⟨o1, o2, ⟨o3, o4, o5⟩, ⟨o6, o7, o8⟩, o9⟩ := hP.on_ hV he
              have o10 := hV.2.2.2.2
              rw [← he] at o10
              omega
            exact ⟨0, [], none, 0, [], none, 0, 0, false, rfl, ((H385.sub (List.nil_sublist _)).rowNil 89 35).rowNil 91 2, .inr ⟨rfl, hno⟩⟩
        · skip
          have hb349f : (at331 : Int) ≠ (xs.length : Int) := bne_iff_ne.1 hb349
          refine GL.run (j := 34) 20 [2, 5, 145] [(2, pt p3 0), (5, pt p31 0), (145, .bool true)] (by kernel_rfl) rfl ?_
          refine GL.k rfl hK347 (fun _ _ h => h) ?_
          refine G.yes rfl ?_
          refine G.seqK fun K386 hK387 => ?_
          refine G.region ?_
          refine GL.run (j := 1) 1 [2, 146] [(2, pt p3 0), (146, .agg #[.int .u64 0, .int .u64 0, .slice none 0 0, .slice none 0 0])] (by kernel_rfl) rfl ?_
          obtain ⟨w388, r389, H390⟩ := H343.stA (P := Try.prog) (o := 0) (vs := [.int .u64 0, .int .u64 0, .slice none 0 0, .slice none 0 0]) (ty := 64) (m := 4) 1 rfl (by kernel_rfl) rfl (by simp) (by simp [Value.oneCell'])
          have H390 : Hp w [] [.blk p9 [.slice A xs.length c, .int .i64 (at331 : Int), .bool z326] 96, .blk p3 [.int .u64 0, .int .u64 0, .slice none 0 0, .slice none 0 0] 64, .blk p31 [.int .u64 (((getB v17) : Nat) : Int), .int .u64 (((getB v328) : Nat) : Int), .slice Ai_ ins.length ci_, .slice Ao_ outs.length co_] 64, .row Ai_ ins.length ci_ 89 35 (insR ins), .row Ao_ outs.length co_ 91 2 (outsR outs)] w388 := H390
          refine GL.semU (j := 2) r389 [2] [(2, pt p3 0)] (by kernel_rfl) rfl rfl rfl ?_
          refine GL.run (j := 3) 1 [2, 3] [(2, pt p3 0), (3, .bool false)] (by kernel_rfl) rfl ?_
          refine GL.k rfl hK387 (fun _ _ h => h) ?_
          refine G.ret ?_
          intro F_ hF_ hM_
          refine hRet _ _ (bodyPost_2 rfl (RV.cell rfl (H390.ldA (o := 0) (ty := 64) (m := 4) (sub := [.int .u64 0, .int .u64 0, .slice none 0 0, .slice none 0 0]) 1 rfl (by kernel_rfl) rfl rfl)) (RV.tmp rfl) ?_ F_ hF_ hM_)
          have hP : Psd xs (getB v17) ins outs (getB v328) n42 n204 z326 q327 := ⟨_, _, _, _, _, _, _, _, _, _, _, _, hz15, hq16, hv17, hz40, hq41, hn42, hiP, hz202, hq203, hn204, hoP, hz326, hq327, hv328, rfl, rfl⟩
          have hno : NoTx xs := fun v0 ins0 outs0 lt0 hV he => by
            obtain ⟨o1, o2, ⟨o3, o4, o5⟩, ⟨o6, o7, o8⟩, o9⟩ := hP.on_ hV he
            have o10 := hV.2.2.2.2
            rw [← he] at o10
            have h_ := o2; rw [hqa334, o1] at h_; have h2_ : (xs.drop _).length = 0 := h_; rw [List.length_drop] at h2_; omega
          exact ⟨0, [], none, 0, [], none, 0, 0, false, rfl, ((H390.sub (List.nil_sublist _)).rowNil 89 35).rowNil 91 2, .inr ⟨rfl, hno⟩⟩
      · skip
        refine GL.eq (M' := [(0, .slice A xs.length c), (2, pt p3 0), (4, pt p9 0), (5, pt p31 0), (6, .int .i64 (n42 : Int)), (11, .int .i64 (n204 : Int)), (12, .bool ov), (116, .bool true)]) (by first | (rw [hb348]; done) | (rw [hb348]; rfl)) ?_
        refine GL.run (j := 34) 29 [2, 5, 145] [(2, pt p3 0), (5, pt p31 0), (145, .bool true)] (by kernel_rfl) rfl ?_
        refine GL.k rfl hK347 (fun _ _ h => h) ?_
        refine G.yes rfl ?_
        refine G.seqK fun K391 hK392 => ?_
        refine G.region ?_
        refine GL.run (j := 1) 1 [2, 146] [(2, pt p3 0), (146, .agg #[.int .u64 0, .int .u64 0, .slice none 0 0, .slice none 0 0])] (by kernel_rfl) rfl ?_
        obtain ⟨w393, r394, H395⟩ := H343.stA (P := Try.prog) (o := 0) (vs := [.int .u64 0, .int .u64 0, .slice none 0 0, .slice none 0 0]) (ty := 64) (m := 4) 1 rfl (by kernel_rfl) rfl (by simp) (by simp [Value.oneCell'])
        have H395 : Hp w [] [.blk p9 [.slice A xs.length c, .int .i64 (at331 : Int), .bool z326] 96, .blk p3 [.int .u64 0, .int .u64 0, .slice none 0 0, .slice none 0 0] 64, .blk p31 [.int .u64 (((getB v17) : Nat) : Int), .int .u64 (((getB v328) : Nat) : Int), .slice Ai_ ins.length ci_, .slice Ao_ outs.length co_] 64, .row Ai_ ins.length ci_ 89 35 (insR ins), .row Ao_ outs.length co_ 91 2 (outsR outs)] w393 := H395
        refine GL.semU (j := 2) r394 [2] [(2, pt p3 0)] (by kernel_rfl) rfl rfl rfl ?_
        refine GL.run (j := 3) 1 [2, 3] [(2, pt p3 0), (3, .bool false)] (by kernel_rfl) rfl ?_
        refine GL.k rfl hK392 (fun _ _ h => h) ?_
        refine G.ret ?_
        intro F_ hF_ hM_
        refine hRet _ _ (bodyPost_2 rfl (RV.cell rfl (H395.ldA (o := 0) (ty := 64) (m := 4) (sub := [.int .u64 0, .int .u64 0, .slice none 0 0, .slice none 0 0]) 1 rfl (by kernel_rfl) rfl rfl)) (RV.tmp rfl) ?_ F_ hF_ hM_)
        have hP : Psd xs (getB v17) ins outs (getB v328) n42 n204 z326 q327 := ⟨_, _, _, _, _, _, _, _, _, _, _, _, hz15, hq16, hv17, hz40, hq41, hn42, hiP, hz202, hq203, hn204, hoP, hz326, hq327, hv328, rfl, rfl⟩
        have hno : NoTx xs := fun v0 ins0 outs0 lt0 hV he => by
          obtain ⟨o1, o2, ⟨o3, o4, o5⟩, ⟨o6, o7, o8⟩, o9⟩ := hP.on_ hV he
          have o10 := hV.2.2.2.2
          rw [← he] at o10
          exact absurd (o1.symm.trans hb348) (by decide) -- @z
        exact ⟨0, [], none, 0, [], none, 0, 0, false, rfl, ((H395.sub (List.nil_sublist _)).rowNil 89 35).rowNil 91 2, .inr ⟨rfl, hno⟩⟩
end Go.Proofs.Ytcedmbdahbdmaaa
set_option maxRecDepth 100000
namespace Go.Proofs.Ytcedmbdahbdmaaa
open Go.RowKit
theorem write_calls (v : Nat) (ins : List TIn) (A : Option Addr) (ca : Nat) (outs : List TOut) (B : Option Addr) (cb : Nat) (lt : Nat) (w : World) (hv : v < 4294967296) (hlt : lt < 4294967296) (hIns : RdS w A (insC ins)) (hI : ∀ x ∈ ins, x.Ok w []) (hOuts : RdS w B (outsC outs)) (hO : ∀ x ∈ outs, x.Ok w []) (hni : ins.length ≤ maxLen) (hno : outs.length ≤ maxLen) (hK : txK ins outs = 0) : Calls Try.prog 48 #[.agg #[.int .u32 (v : Int), .slice A ins.length ca, .slice B outs.length cb, .int .u32 (lt : Int)]] w fun e w' => ∃ A' n' c', e = .returned (.slice A' n' c') ∧ Hp w [] [.row A' n' c' 5 1 (by8 (txB v ins outs lt))] w' := by
  have hni_ : ins.length ≤ 9223372036854775807 := hni
  have hno_ : outs.length ≤ 9223372036854775807 := hno
  obtain ⟨_, h2, h3, h4, h5⟩ := txK_zero.1 hK
  refine calls_G (args := [.agg #[.int .u32 (v : Int), .slice A ins.length ca, .slice B outs.length cb, .int .u32 (lt : Int)]]) Try.func48 rfl Try.ntmps48 rfl ?_
  intro Q0 hRet hNor hPan
  have H := Hp.start w
  have H : Hp w [] [] w := H
  refine G.seqK fun K1 hK2 => ?_
  refine G.region ?_
  obtain ⟨p3, w4, r5, H6⟩ := H.box (P := Try.prog) 26 [.int .u32 (v : Int), .slice A ins.length ca, .slice B outs.length cb, .int .u32 (lt : Int)] (.agg #[.int .u32 (v : Int), .slice A ins.length ca, .slice B outs.length cb, .int .u32 (lt : Int)]) rfl
  have H6 : Hp w [] [.blk p3 [.int .u32 (v : Int), .slice A ins.length ca, .slice B outs.length cb, .int .u32 (lt : Int)] 26] w4 := H6
  refine GL.sem (j := 1) (r5) [1] [(1, pt p3 0)] (by kernel_rfl) (by kernel_rfl) rfl ?_
  refine GL.run (j := 2) 1 [1] [(1, pt p3 0)] (by kernel_rfl) rfl ?_
  refine GL.k rfl hK2 (fun _ _ h => h) ?_
  refine G.seqK fun K7 hK8 => ?_
  refine G.region ?_
  obtain ⟨p9, w10, r11, H12⟩ := H6.alloc (P := Try.prog) 114 [.slice none 0 0] (by kernel_rfl)
  have H12 : Hp w [] [.blk p3 [.int .u32 (v : Int), .slice A ins.length ca, .slice B outs.length cb, .int .u32 (lt : Int)] 26, .blk p9 [.slice none 0 0] 114] w10 := H12
  refine GL.sem (j := 1) (r11) [1, 3] [(1, pt p3 0), (3, pt p9 0)] (by kernel_rfl) (by kernel_rfl) rfl ?_
  refine GL.k rfl hK8 (fun _ _ h => h) ?_
  refine G.seqK fun K13 hK14 => ?_
  refine G.region ?_
  refine GL.run (j := 1) 1 [1, 3, 8] [(1, pt p3 0), (3, pt p9 0), (8, pt p3 0)] (by kernel_rfl) rfl ?_
  refine GL.sem (j := 2) (H12.ld (o := 0) (ty := 22) (v := .int .u32 (v : Int)) 0 rfl (by kernel_rfl) rfl) [1, 3, 9] [(1, pt p3 0), (3, pt p9 0), (9, .int .u32 (v : Int))] (by kernel_rfl) (by kernel_rfl) rfl ?_
  refine GL.run (j := 3) 1 [1, 3, 10] [(1, pt p3 0), (3, pt p9 0), (10, .int .u64 (IntKind.u64.wrap (v : Int)))] (by kernel_rfl) rfl ?_
  have e15 : (IntKind.u64.wrap (v : Int)) = (v : Int) := in_u64 (by omega)
  refine GL.eq (M' := [(1, pt p3 0), (3, pt p9 0), (10, .int .u64 (v : Int))]) (by rw [e15]) ?_
  clear e15
  have H16 := H12.rowNil 5 1
  have H16 : Hp w [] [.blk p3 [.int .u32 (v : Int), .slice A ins.length ca, .slice B outs.length cb, .int .u32 (lt : Int)] 26, .blk p9 [.slice none 0 0] 114, .row none 0 0 5 1 (by8 ([] : List UInt8))] w10 := H16
  have H19 := (Hp.reorder (L' := [.blk p9 [.slice none 0 0] 114, .row none 0 0 5 1 (by8 ([] : List UInt8)), .blk p3 [.int .u32 (v : Int), .slice A ins.length ca, .slice B outs.length cb, .int .u32 (lt : Int)] 26]) H16 (List.Perm.trans (List.Perm.swap _ _ _) (List.Perm.cons _ (List.Perm.trans (List.Perm.swap _ _ _) (List.Perm.refl _)))))
  refine GL.call (j := 4) (Put4_calls (ids [.blk p9 [.slice none 0 0] 114, .row none 0 0 5 1 (by8 ([] : List UInt8))]) p9 none 0 0 ([] : List UInt8) v w10 (Hp.startL (A := [.blk p9 [.slice none 0 0] 114, .row none 0 0 5 1 (by8 ([] : List UInt8))]) (B := [.blk p3 [.int .u32 (v : Int), .slice A ins.length ca, .slice B outs.length cb, .int .u32 (lt : Int)] 26]) H19) (by omega)) (by kernel_rfl) rfl (fun e_ w20 hR => ?_)
  obtain ⟨A17, c18, rfl, H22⟩ := hR
  have H21 : Hp w [] [.blk p9 [.slice A17 4 c18] 114, .row A17 4 c18 5 1 (by8 (putB v 4)), .blk p3 [.int .u32 (v : Int), .slice A ins.length ca, .slice B outs.length cb, .int .u32 (lt : Int)] 26] w20 := Hp.callL (A := [.blk p9 [.slice none 0 0] 114, .row none 0 0 5 1 (by8 ([] : List UInt8))]) (B := [.blk p3 [.int .u32 (v : Int), .slice A ins.length ca, .slice B outs.length cb, .int .u32 (lt : Int)] 26]) H19 H22
  refine ⟨_, rfl, [1, 3], [(1, pt p3 0), (3, pt p9 0)], by kernel_rfl, ?_⟩
  refine GL.k rfl hK14 (fun _ _ h => h) ?_
  refine G.seqK fun K23 hK24 => ?_
  refine G.region ?_
  refine GL.run (j := 1) 1 [1, 3, 12] [(1, pt p3 0), (3, pt p9 0), (12, pt p3 1)] (by kernel_rfl) rfl ?_
  refine GL.sem (j := 2) (H21.ld (o := 1) (ty := 23) (v := .slice A ins.length ca) 2 rfl (by kernel_rfl) rfl) [1, 3, 13] [(1, pt p3 0), (3, pt p9 0), (13, .slice A ins.length ca)] (by kernel_rfl) (by kernel_rfl) rfl ?_
  refine GL.run (j := 4) 2 [1, 3, 15] [(1, pt p3 0), (3, pt p9 0), (15, .int .u64 (IntKind.u64.wrap (ins.length : Int)))] (by kernel_rfl) rfl ?_
  have e25 : (IntKind.u64.wrap (ins.length : Int)) = (ins.length : Int) := in_u64 (by omega)
  refine GL.eq (M' := [(1, pt p3 0), (3, pt p9 0), (15, .int .u64 (ins.length : Int))]) (by rw [e25]) ?_
  clear e25
  have hcA26 := cntSz_le ins.length
  refine GL.call (j := 5) (WCount_calls (ids [.blk p9 [.slice A17 4 c18] 114, .row A17 4 c18 5 1 (by8 (putB v 4))]) p9 A17 4 c18 (putB v 4) ins.length w20 (Hp.startL (A := [.blk p9 [.slice A17 4 c18] 114, .row A17 4 c18 5 1 (by8 (putB v 4))]) (B := [.blk p3 [.int .u32 (v : Int), .slice A ins.length ca, .slice B outs.length cb, .int .u32 (lt : Int)] 26]) H21) (by omega)) (by kernel_rfl) rfl (fun e_ w28 hR => ?_)
  obtain ⟨A26, c27, rfl, H30⟩ := hR
  have H29 : Hp w [] [.blk p9 [.slice A26 (4 + cntSz ins.length) c27] 114, .row A26 (4 + cntSz ins.length) c27 5 1 (by8 ((putB v 4) ++ cnt ins.length)), .blk p3 [.int .u32 (v : Int), .slice A ins.length ca, .slice B outs.length cb, .int .u32 (lt : Int)] 26] w28 := Hp.callL (A := [.blk p9 [.slice A17 4 c18] 114, .row A17 4 c18 5 1 (by8 (putB v 4))]) (B := [.blk p3 [.int .u32 (v : Int), .slice A ins.length ca, .slice B outs.length cb, .int .u32 (lt : Int)] 26]) H21 H30
  refine ⟨_, rfl, [1, 3], [(1, pt p3 0), (3, pt p9 0)], by kernel_rfl, ?_⟩
  refine GL.k rfl hK24 (fun _ _ h => h) ?_
  refine G.seqK fun K31 hK32 => ?_
  refine G.seqK fun K33 hK34 => ?_
  refine G.region ?_
  refine GL.run (j := 1) 1 [1, 3, 17] [(1, pt p3 0), (3, pt p9 0), (17, pt p3 1)] (by kernel_rfl) rfl ?_
  refine GL.sem (j := 2) (H29.ld (o := 1) (ty := 23) (v := .slice A ins.length ca) 2 rfl (by kernel_rfl) rfl) [1, 3, 18] [(1, pt p3 0), (3, pt p9 0), (18, .slice A ins.length ca)] (by kernel_rfl) (by kernel_rfl) rfl ?_
  refine GL.run (j := 4) 2 [1, 3, 18, 19, 20] [(1, pt p3 0), (3, pt p9 0), (18, .slice A ins.length ca), (19, .int .i64 (ins.length : Int)), (20, .int .i64 0)] (by kernel_rfl) rfl ?_
  refine GL.k rfl hK34 (fun _ _ h => h) ?_
  refine G.block ?_
  refine G.fit [1, 3, 18, 19, 20] (M' := [(1, pt p3 0), (3, pt p9 0), (18, .slice A ins.length ca), (19, .int .i64 (ins.length : Int)), (20, .int .i64 0)]) (by kernel_rfl) ?_
  refine G.loop (X := Nat × Option Addr × Nat × Nat × List UInt8) (fun ⟨i, A_i, c_i, m_i, b_i⟩ => [(1, pt p3 0), (3, pt p9 0), (18, .slice A ins.length ca), (19, .int .i64 (ins.length : Int)), (20, .int .i64 (i : Int))]) (fun ⟨i, A_i, c_i, m_i, b_i⟩ w_ => (i ≤ ins.length ∧ b_i = ((putB v 4) ++ cnt ins.length) ++ insB (ins.take i) ∧ m_i ≤ (4 + cntSz ins.length) + 600 * i) ∧ Hp w [] [.blk p9 [.slice A_i m_i c_i] 114, .row A_i m_i c_i 5 1 (by8 b_i), .blk p3 [.int .u32 (v : Int), .slice A ins.length ca, .slice B outs.length cb, .int .u32 (lt : Int)] 26] w_) (fun ⟨i, A_i, c_i, m_i, b_i⟩ => ins.length - i) ⟨0, A26, c27, (4 + cntSz ins.length), ((putB v 4) ++ cnt ins.length)⟩ [1, 3, 18, 19, 20] (by kernel_rfl) ⟨⟨Nat.zero_le _, by rw [List.take_zero]; exact (List.append_nil _).symm, by omega⟩, H29⟩ ?_
  rintro ⟨i, A_i, c_i, m_i, b_i⟩ w36 ⟨hi37, H38⟩
  refine G.eq (M' := [(1, pt p3 0), (3, pt p9 0), (18, .slice A ins.length ca), (19, .int .i64 (ins.length : Int)), (20, .int .i64 (i : Int))]) rfl ?_
  have H38 : Hp w [] [.blk p9 [.slice A_i m_i c_i] 114, .row A_i m_i c_i 5 1 (by8 b_i), .blk p3 [.int .u32 (v : Int), .slice A ins.length ca, .slice B outs.length cb, .int .u32 (lt : Int)] 26] w36 := H38
  obtain ⟨hil, hbi, hmi⟩ := hi37
  refine G.seqK fun K39 hK40 => ?_
  refine G.region ?_
  refine GL.run (j := 1) 1 [1, 3, 18, 19, 20, 21] [(1, pt p3 0), (3, pt p9 0), (18, .slice A ins.length ca), (19, .int .i64 (ins.length : Int)), (20, .int .i64 (i : Int)), (21, .bool (decide ((i : Int) < (ins.length : Int))))] (by kernel_rfl) rfl ?_
  refine GL.k rfl hK40 (fun _ _ h => h) ?_
  refine G.seqK fun K41 hK42 => ?_
  cases hb43 : (decide ((i : Int) < (ins.length : Int)))
  · skip
    have hb43f := of_decide_eq_false hb43
    refine G.no rfl ?_
    refine G.exitK hK32 (fun _ _ h => h) ?_
    refine G.seqK fun K44 hK45 => ?_
    refine G.region ?_
    refine GL.run (j := 1) 1 [1, 3, 39] [(1, pt p3 0), (3, pt p9 0), (39, pt p3 2)] (by kernel_rfl) rfl ?_
    refine GL.sem (j := 2) (H38.ld (o := 2) (ty := 24) (v := .slice B outs.length cb) 2 rfl (by kernel_rfl) rfl) [1, 3, 40] [(1, pt p3 0), (3, pt p9 0), (40, .slice B outs.length cb)] (by kernel_rfl) (by kernel_rfl) rfl ?_
    refine GL.run (j := 4) 2 [1, 3, 42] [(1, pt p3 0), (3, pt p9 0), (42, .int .u64 (IntKind.u64.wrap (outs.length : Int)))] (by kernel_rfl) rfl ?_
    have e46 : (IntKind.u64.wrap (outs.length : Int)) = (outs.length : Int) := in_u64 (by omega)
    refine GL.eq (M' := [(1, pt p3 0), (3, pt p9 0), (42, .int .u64 (outs.length : Int))]) (by rw [e46]) ?_
    clear e46
    have hcA47 := cntSz_le outs.length
    refine GL.call (j := 5) (WCount_calls (ids [.blk p9 [.slice A_i m_i c_i] 114, .row A_i m_i c_i 5 1 (by8 b_i)]) p9 A_i m_i c_i b_i outs.length w36 (Hp.startL (A := [.blk p9 [.slice A_i m_i c_i] 114, .row A_i m_i c_i 5 1 (by8 b_i)]) (B := [.blk p3 [.int .u32 (v : Int), .slice A ins.length ca, .slice B outs.length cb, .int .u32 (lt : Int)] 26]) H38) (by omega)) (by kernel_rfl) rfl (fun e_ w49 hR => ?_)
    obtain ⟨A47, c48, rfl, H51⟩ := hR
    have H50 : Hp w [] [.blk p9 [.slice A47 (m_i + cntSz outs.length) c48] 114, .row A47 (m_i + cntSz outs.length) c48 5 1 (by8 (b_i ++ cnt outs.length)), .blk p3 [.int .u32 (v : Int), .slice A ins.length ca, .slice B outs.length cb, .int .u32 (lt : Int)] 26] w49 := Hp.callL (A := [.blk p9 [.slice A_i m_i c_i] 114, .row A_i m_i c_i 5 1 (by8 b_i)]) (B := [.blk p3 [.int .u32 (v : Int), .slice A ins.length ca, .slice B outs.length cb, .int .u32 (lt : Int)] 26]) H38 H51
    refine ⟨_, rfl, [1, 3], [(1, pt p3 0), (3, pt p9 0)], by kernel_rfl, ?_⟩
    refine GL.k rfl hK45 (fun _ _ h => h) ?_
    refine G.seqK fun K52 hK53 => ?_
    refine G.seqK fun K54 hK55 => ?_
    refine G.region ?_
    refine GL.run (j := 1) 1 [1, 3, 44] [(1, pt p3 0), (3, pt p9 0), (44, pt p3 2)] (by kernel_rfl) rfl ?_
    refine GL.sem (j := 2) (H50.ld (o := 2) (ty := 24) (v := .slice B outs.length cb) 2 rfl (by kernel_rfl) rfl) [1, 3, 45] [(1, pt p3 0), (3, pt p9 0), (45, .slice B outs.length cb)] (by kernel_rfl) (by kernel_rfl) rfl ?_
    refine GL.run (j := 4) 2 [1, 3, 45, 46, 47] [(1, pt p3 0), (3, pt p9 0), (45, .slice B outs.length cb), (46, .int .i64 (outs.length : Int)), (47, .int .i64 0)] (by kernel_rfl) rfl ?_
    refine GL.k rfl hK55 (fun _ _ h => h) ?_
    refine G.block ?_
    refine G.fit [1, 3, 45, 46, 47] (M' := [(1, pt p3 0), (3, pt p9 0), (45, .slice B outs.length cb), (46, .int .i64 (outs.length : Int)), (47, .int .i64 0)]) (by kernel_rfl) ?_
    refine G.loop (X := Nat × Option Addr × Nat × Nat × List UInt8) (fun ⟨j, A_j, c_j, m_j, b_j⟩ => [(1, pt p3 0), (3, pt p9 0), (45, .slice B outs.length cb), (46, .int .i64 (outs.length : Int)), (47, .int .i64 (j : Int))]) (fun ⟨j, A_j, c_j, m_j, b_j⟩ w_ => (j ≤ outs.length ∧ b_j = (b_i ++ cnt outs.length) ++ outsB (outs.take j) ∧ m_j ≤ (m_i + cntSz outs.length) + 600 * j) ∧ Hp w [] [.blk p9 [.slice A_j m_j c_j] 114, .row A_j m_j c_j 5 1 (by8 b_j), .blk p3 [.int .u32 (v : Int), .slice A ins.length ca, .slice B outs.length cb, .int .u32 (lt : Int)] 26] w_) (fun ⟨j, A_j, c_j, m_j, b_j⟩ => outs.length - j) ⟨0, A47, c48, (m_i + cntSz outs.length), (b_i ++ cnt outs.length)⟩ [1, 3, 45, 46, 47] (by kernel_rfl) ⟨⟨Nat.zero_le _, by rw [List.take_zero]; exact (List.append_nil _).symm, by omega⟩, H50⟩ ?_
    rintro ⟨j, A_j, c_j, m_j, b_j⟩ w57 ⟨hi58, H59⟩
    refine G.eq (M' := [(1, pt p3 0), (3, pt p9 0), (45, .slice B outs.length cb), (46, .int .i64 (outs.length : Int)), (47, .int .i64 (j : Int))]) rfl ?_
    have H59 : Hp w [] [.blk p9 [.slice A_j m_j c_j] 114, .row A_j m_j c_j 5 1 (by8 b_j), .blk p3 [.int .u32 (v : Int), .slice A ins.length ca, .slice B outs.length cb, .int .u32 (lt : Int)] 26] w57 := H59
    obtain ⟨hjl, hbj, hmj⟩ := hi58
    refine G.seqK fun K60 hK61 => ?_
    refine G.region ?_
    refine GL.run (j := 1) 1 [1, 3, 45, 46, 47, 48] [(1, pt p3 0), (3, pt p9 0), (45, .slice B outs.length cb), (46, .int .i64 (outs.length : Int)), (47, .int .i64 (j : Int)), (48, .bool (decide ((j : Int) < (outs.length : Int))))] (by kernel_rfl) rfl ?_
    refine GL.k rfl hK61 (fun _ _ h => h) ?_
    refine G.seqK fun K62 hK63 => ?_
    cases hb64 : (decide ((j : Int) < (outs.length : Int)))
    · skip
      have hb64f := of_decide_eq_false hb64
      refine G.no rfl ?_
      refine G.exitK hK53 (fun _ _ h => h) ?_
      refine G.seqK fun K65 hK66 => ?_
      refine G.region ?_
      refine GL.run (j := 1) 1 [3, 58] [(3, pt p9 0), (58, pt p3 3)] (by kernel_rfl) rfl ?_
      refine GL.sem (j := 2) (H59.ld (o := 3) (ty := 22) (v := .int .u32 (lt : Int)) 2 rfl (by kernel_rfl) rfl) [3, 59] [(3, pt p9 0), (59, .int .u32 (lt : Int))] (by kernel_rfl) (by kernel_rfl) rfl ?_
      refine GL.run (j := 3) 1 [3, 60] [(3, pt p9 0), (60, .int .u64 (IntKind.u64.wrap (lt : Int)))] (by kernel_rfl) rfl ?_
      have e67 : (IntKind.u64.wrap (lt : Int)) = (lt : Int) := in_u64 (by omega)
      refine GL.eq (M' := [(3, pt p9 0), (60, .int .u64 (lt : Int))]) (by rw [e67]) ?_
      clear e67
      refine GL.call (j := 4) (Put4_calls (ids [.blk p9 [.slice A_j m_j c_j] 114, .row A_j m_j c_j 5 1 (by8 b_j)]) p9 A_j m_j c_j b_j lt w57 (Hp.startL (A := [.blk p9 [.slice A_j m_j c_j] 114, .row A_j m_j c_j 5 1 (by8 b_j)]) (B := [.blk p3 [.int .u32 (v : Int), .slice A ins.length ca, .slice B outs.length cb, .int .u32 (lt : Int)] 26]) H59) (by omega)) (by kernel_rfl) rfl (fun e_ w70 hR => ?_)
      obtain ⟨A68, c69, rfl, H72⟩ := hR
      have H71 : Hp w [] [.blk p9 [.slice A68 (m_j + 4) c69] 114, .row A68 (m_j + 4) c69 5 1 (by8 (b_j ++ (putB lt 4))), .blk p3 [.int .u32 (v : Int), .slice A ins.length ca, .slice B outs.length cb, .int .u32 (lt : Int)] 26] w70 := Hp.callL (A := [.blk p9 [.slice A_j m_j c_j] 114, .row A_j m_j c_j 5 1 (by8 b_j)]) (B := [.blk p3 [.int .u32 (v : Int), .slice A ins.length ca, .slice B outs.length cb, .int .u32 (lt : Int)] 26]) H59 H72
      refine ⟨_, rfl, [3], [(3, pt p9 0)], by kernel_rfl, ?_⟩
      refine GL.k rfl hK66 (fun _ _ h => h) ?_
      refine G.seqK fun K73 hK74 => ?_
      refine G.region ?_
      refine GL.call (j := 1) (WBytes_calls (ids [.blk p9 [.slice A68 (m_j + 4) c69] 114, .row A68 (m_j + 4) c69 5 1 (by8 (b_j ++ (putB lt 4)))]) p9 A68 (m_j + 4) c69 (b_j ++ (putB lt 4)) w70 (Hp.startL (A := [.blk p9 [.slice A68 (m_j + 4) c69] 114, .row A68 (m_j + 4) c69 5 1 (by8 (b_j ++ (putB lt 4)))]) (B := [.blk p3 [.int .u32 (v : Int), .slice A ins.length ca, .slice B outs.length cb, .int .u32 (lt : Int)] 26]) H71) (by omega)) (by kernel_rfl) rfl (fun e_ w77 hR => ?_)
      obtain ⟨A75, c76, rfl, H79⟩ := hR
      have H78 : Hp w [] [.blk p9 [.slice A68 (m_j + 4) c69] 114, .row A68 (m_j + 4) c69 5 1 (by8 (b_j ++ (putB lt 4))), .row A75 (m_j + 4) c76 5 1 (by8 (b_j ++ (putB lt 4))), .blk p3 [.int .u32 (v : Int), .slice A ins.length ca, .slice B outs.length cb, .int .u32 (lt : Int)] 26] w77 := Hp.callL (A := [.blk p9 [.slice A68 (m_j + 4) c69] 114, .row A68 (m_j + 4) c69 5 1 (by8 (b_j ++ (putB lt 4)))]) (B := [.blk p3 [.int .u32 (v : Int), .slice A ins.length ca, .slice B outs.length cb, .int .u32 (lt : Int)] 26]) H71 H79
      refine ⟨_, rfl, [62], [(62, .slice A75 (m_j + 4) c76)], by kernel_rfl, ?_⟩
      refine GL.run (j := 2) 1 [2] [(2, .slice A75 (m_j + 4) c76)] (by kernel_rfl) rfl ?_
      refine GL.k rfl hK74 (fun _ _ h => h) ?_
      refine G.ret ?_
      intro F_ hF_ hM_
      refine hRet _ _ (bodyPost_1 rfl (RV.tmp rfl) ?_ F_ hF_ hM_)
      have H80 : Hp w [] [.row A75 (m_j + 4) c76 5 1 (by8 (b_j ++ (putB lt 4)))] w77 := H78.sub (List.Sublist.cons _ (List.Sublist.cons _ (List.Sublist.cons_cons _ (List.Sublist.cons _ (List.Sublist.slnil)))))
      have HF := H80
      have eB : (b_j ++ (putB lt 4)) = txB v ins outs lt := by rw [hbj, hbi, List.take_of_length_le (show ins.length ≤ i by omega), List.take_of_length_le (show outs.length ≤ j by omega)]; simp only [txB, List.append_assoc, List.nil_append]
      rw [eB] at HF
      exact ⟨_, _, _, rfl, HF⟩
    · skip
      have hb64f := of_decide_eq_true hb64
      refine G.yes rfl ?_
      refine G.skipK hK63 (fun _ _ h => h) ?_
      refine G.seqK fun K81 hK82 => ?_
      refine G.block ?_
      refine G.seqK fun K83 hK84 => ?_
      refine G.region ?_
      obtain ⟨x85, hx86⟩ : ∃ x, outs[j]? = some x := ⟨_, List.getElem?_eq_getElem (by omega)⟩
      have hok87 := hO x85 (List.mem_of_getElem? hx86)
      have hpvx85 := hok87.1
      have hllx85 := h5 x85 (List.mem_of_getElem? hx86)
      refine GL.sem (j := 1) (run_idxRdN (P := Try.prog) (k := .i64) (t := 24) (sz := 2) (A := B) (len := outs.length) (cap := cb) (j := j) (by kernel_rfl) rfl (hOuts.hp H59) (outsC_length _) (by decide) (by omega)) [1, 3, 45, 46, 47, 49] [(1, pt p3 0), (3, pt p9 0), (45, .slice B outs.length cb), (46, .int .i64 (outs.length : Int)), (47, .int .i64 (j : Int)), (49, .pointer (Option.map (fun x => Addr.add x (j * 2)) B))] (by kernel_rfl) (by kernel_rfl) rfl ?_
      refine GL.sem (j := 2) (run_ldRdA (P := Try.prog) (ty := 40) (A := B) (o := (j * 2)) (m := 2) (sub := [.int .u64 (x85.pv : Int), .slice x85.B x85.lb.length x85.lc]) (by kernel_rfl) (hOuts.hp H59) (outsC_cut hx86) (rfl) (by decide)) [1, 3, 45, 46, 47, 50] [(1, pt p3 0), (3, pt p9 0), (45, .slice B outs.length cb), (46, .int .i64 (outs.length : Int)), (47, .int .i64 (j : Int)), (50, .agg #[.int .u64 (x85.pv : Int), .slice x85.B x85.lb.length x85.lc])] (by kernel_rfl) (by kernel_rfl) rfl ?_
      obtain ⟨p88, w89, r90, H91⟩ := H59.alloc (P := Try.prog) 40 [.int .u64 0, .slice none 0 0] (by kernel_rfl)
      have H91 : Hp w [] [.blk p9 [.slice A_j m_j c_j] 114, .row A_j m_j c_j 5 1 (by8 b_j), .blk p3 [.int .u32 (v : Int), .slice A ins.length ca, .slice B outs.length cb, .int .u32 (lt : Int)] 26, .blk p88 [.int .u64 0, .slice none 0 0] 40] w89 := H91
      refine GL.sem (j := 3) (r90) [1, 3, 7, 45, 46, 47, 50] [(1, pt p3 0), (3, pt p9 0), (7, pt p88 0), (45, .slice B outs.length cb), (46, .int .i64 (outs.length : Int)), (47, .int .i64 (j : Int)), (50, .agg #[.int .u64 (x85.pv : Int), .slice x85.B x85.lb.length x85.lc])] (by kernel_rfl) (by kernel_rfl) rfl ?_
      obtain ⟨w92, r93, H94⟩ := H91.stA (P := Try.prog) (o := 0) (vs := [.int .u64 (x85.pv : Int), .slice x85.B x85.lb.length x85.lc]) (ty := 40) (m := 2) 3 rfl (by kernel_rfl) rfl (by simp) (by simp [Value.oneCell'])
      have H94 : Hp w [] [.blk p9 [.slice A_j m_j c_j] 114, .row A_j m_j c_j 5 1 (by8 b_j), .blk p3 [.int .u32 (v : Int), .slice A ins.length ca, .slice B outs.length cb, .int .u32 (lt : Int)] 26, .blk p88 [.int .u64 (x85.pv : Int), .slice x85.B x85.lb.length x85.lc] 40] w92 := H94
      refine GL.semU (j := 4) r93 [1, 3, 7, 45, 46, 47] [(1, pt p3 0), (3, pt p9 0), (7, pt p88 0), (45, .slice B outs.length cb), (46, .int .i64 (outs.length : Int)), (47, .int .i64 (j : Int))] (by kernel_rfl) rfl rfl rfl ?_
      refine GL.k rfl hK84 (fun _ _ h => h) ?_
      refine G.seqK fun K95 hK96 => ?_
      refine G.region ?_
      refine GL.run (j := 1) 1 [1, 3, 7, 45, 46, 47, 51] [(1, pt p3 0), (3, pt p9 0), (7, pt p88 0), (45, .slice B outs.length cb), (46, .int .i64 (outs.length : Int)), (47, .int .i64 (j : Int)), (51, pt p88 0)] (by kernel_rfl) rfl ?_
      refine GL.sem (j := 2) (H94.ld (o := 0) (ty := 32) (v := .int .u64 (x85.pv : Int)) 3 rfl (by kernel_rfl) rfl) [1, 3, 7, 45, 46, 47, 52] [(1, pt p3 0), (3, pt p9 0), (7, pt p88 0), (45, .slice B outs.length cb), (46, .int .i64 (outs.length : Int)), (47, .int .i64 (j : Int)), (52, .int .u64 (x85.pv : Int))] (by kernel_rfl) (by kernel_rfl) rfl ?_
      refine GL.call (j := 3) (Put8_calls (ids [.blk p9 [.slice A_j m_j c_j] 114, .row A_j m_j c_j 5 1 (by8 b_j)]) p9 A_j m_j c_j b_j x85.pv w92 (Hp.startL (A := [.blk p9 [.slice A_j m_j c_j] 114, .row A_j m_j c_j 5 1 (by8 b_j)]) (B := [.blk p3 [.int .u32 (v : Int), .slice A ins.length ca, .slice B outs.length cb, .int .u32 (lt : Int)] 26, .blk p88 [.int .u64 (x85.pv : Int), .slice x85.B x85.lb.length x85.lc] 40]) H94) (by omega)) (by kernel_rfl) rfl (fun e_ w99 hR => ?_)
      obtain ⟨A97, c98, rfl, H101⟩ := hR
      have H100 : Hp w [] [.blk p9 [.slice A97 (m_j + 8) c98] 114, .row A97 (m_j + 8) c98 5 1 (by8 (b_j ++ (putB x85.pv 8))), .blk p3 [.int .u32 (v : Int), .slice A ins.length ca, .slice B outs.length cb, .int .u32 (lt : Int)] 26, .blk p88 [.int .u64 (x85.pv : Int), .slice x85.B x85.lb.length x85.lc] 40] w99 := Hp.callL (A := [.blk p9 [.slice A_j m_j c_j] 114, .row A_j m_j c_j 5 1 (by8 b_j)]) (B := [.blk p3 [.int .u32 (v : Int), .slice A ins.length ca, .slice B outs.length cb, .int .u32 (lt : Int)] 26, .blk p88 [.int .u64 (x85.pv : Int), .slice x85.B x85.lb.length x85.lc] 40]) H94 H101
      refine ⟨_, rfl, [1, 3, 7, 45, 46, 47], [(1, pt p3 0), (3, pt p9 0), (7, pt p88 0), (45, .slice B outs.length cb), (46, .int .i64 (outs.length : Int)), (47, .int .i64 (j : Int))], by kernel_rfl, ?_⟩
      refine GL.k rfl hK96 (fun _ _ h => h) ?_
      refine G.region ?_
      refine GL.run (j := 1) 1 [1, 3, 45, 46, 47, 54] [(1, pt p3 0), (3, pt p9 0), (45, .slice B outs.length cb), (46, .int .i64 (outs.length : Int)), (47, .int .i64 (j : Int)), (54, pt p88 1)] (by kernel_rfl) rfl ?_
      refine GL.sem (j := 2) (H100.ld (o := 1) (ty := 38) (v := .slice x85.B x85.lb.length x85.lc) 3 rfl (by kernel_rfl) rfl) [1, 3, 45, 46, 47, 55] [(1, pt p3 0), (3, pt p9 0), (45, .slice B outs.length cb), (46, .int .i64 (outs.length : Int)), (47, .int .i64 (j : Int)), (55, .slice x85.B x85.lb.length x85.lc)] (by kernel_rfl) (by kernel_rfl) rfl ?_
      have hcA102 := cntSz_le x85.lb.length
      refine GL.call (j := 3) (WCounted_calls (ids [.blk p9 [.slice A97 (m_j + 8) c98] 114, .row A97 (m_j + 8) c98 5 1 (by8 (b_j ++ (putB x85.pv 8)))]) p9 A97 (m_j + 8) c98 (b_j ++ (putB x85.pv 8)) x85.B x85.lb.length x85.lc x85.lb w99 (Hp.startL (A := [.blk p9 [.slice A97 (m_j + 8) c98] 114, .row A97 (m_j + 8) c98 5 1 (by8 (b_j ++ (putB x85.pv 8)))]) (B := [.blk p3 [.int .u32 (v : Int), .slice A ins.length ca, .slice B outs.length cb, .int .u32 (lt : Int)] 26, .blk p88 [.int .u64 (x85.pv : Int), .slice x85.B x85.lb.length x85.lc] 40]) H100) (by omega) (RdO.mid (A' := [.blk p9 [.slice A97 (m_j + 8) c98] 114, .row A97 (m_j + 8) c98 5 1 (by8 (b_j ++ (putB x85.pv 8)))]) (B' := [.blk p3 [.int .u32 (v : Int), .slice A ins.length ca, .slice B outs.length cb, .int .u32 (lt : Int)] 26, .blk p88 [.int .u64 (x85.pv : Int), .slice x85.B x85.lb.length x85.lc] 40]) hok87.2.1 H100) (rfl) (by omega)) (by kernel_rfl) rfl (fun e_ w104 hR => ?_)
      obtain ⟨A102, c103, rfl, H106⟩ := hR
      have H105 : Hp w [] [.blk p9 [.slice A102 ((m_j + 8) + (cntSz x85.lb.length + x85.lb.length)) c103] 114, .row A102 ((m_j + 8) + (cntSz x85.lb.length + x85.lb.length)) c103 5 1 (by8 ((b_j ++ (putB x85.pv 8)) ++ (cnt x85.lb.length ++ x85.lb))), .blk p3 [.int .u32 (v : Int), .slice A ins.length ca, .slice B outs.length cb, .int .u32 (lt : Int)] 26, .blk p88 [.int .u64 (x85.pv : Int), .slice x85.B x85.lb.length x85.lc] 40] w104 := Hp.callL (A := [.blk p9 [.slice A97 (m_j + 8) c98] 114, .row A97 (m_j + 8) c98 5 1 (by8 (b_j ++ (putB x85.pv 8)))]) (B := [.blk p3 [.int .u32 (v : Int), .slice A ins.length ca, .slice B outs.length cb, .int .u32 (lt : Int)] 26, .blk p88 [.int .u64 (x85.pv : Int), .slice x85.B x85.lb.length x85.lc] 40]) H100 H106
      refine ⟨_, rfl, [1, 3, 45, 46, 47], [(1, pt p3 0), (3, pt p9 0), (45, .slice B outs.length cb), (46, .int .i64 (outs.length : Int)), (47, .int .i64 (j : Int))], by kernel_rfl, ?_⟩
      refine GL.k rfl hK82 (fun _ _ h => h) ?_
      refine G.region ?_
      refine GL.run (j := 2) 2 [1, 3, 45, 46, 47] [(1, pt p3 0), (3, pt p9 0), (45, .slice B outs.length cb), (46, .int .i64 (outs.length : Int)), (47, .int .i64 (IntKind.i64.wrap ((j : Int) + 1)))] (by kernel_rfl) rfl ?_
      have e107 : (IntKind.i64.wrap ((j : Int) + 1)) = ((j + 1 : Nat) : Int) := by rw [in_i64 (by omega)]; omega
      refine GL.eq (M' := [(1, pt p3 0), (3, pt p9 0), (45, .slice B outs.length cb), (46, .int .i64 (outs.length : Int)), (47, .int .i64 ((j + 1 : Nat) : Int))]) (by rw [e107]) ?_
      clear e107
      have H108 : Hp w [] [.blk p9 [.slice A102 ((m_j + 8) + (cntSz x85.lb.length + x85.lb.length)) c103] 114, .row A102 ((m_j + 8) + (cntSz x85.lb.length + x85.lb.length)) c103 5 1 (by8 ((b_j ++ (putB x85.pv 8)) ++ (cnt x85.lb.length ++ x85.lb))), .blk p3 [.int .u32 (v : Int), .slice A ins.length ca, .slice B outs.length cb, .int .u32 (lt : Int)] 26] w104 := H105.sub (List.Sublist.cons_cons _ (List.Sublist.cons_cons _ (List.Sublist.cons_cons _ (List.Sublist.cons _ (List.Sublist.slnil)))))
      refine GL.fit (ts := [1, 3, 45, 46, 47]) (M' := [(1, pt p3 0), (3, pt p9 0), (45, .slice B outs.length cb), (46, .int .i64 (outs.length : Int)), (47, .int .i64 ((j + 1 : Nat) : Int))]) (by kernel_rfl) ?_
      refine GL.eq (M' := [(1, pt p3 0), (3, pt p9 0), (45, .slice B outs.length cb), (46, .int .i64 (outs.length : Int)), (47, .int .i64 (((j + 1) : Nat) : Int))]) (by rfl) ?_
      exact GL.again ⟨(j + 1), A102, c103, ((m_j + 8) + (cntSz x85.lb.length + x85.lb.length)), ((b_j ++ (putB x85.pv 8)) ++ (cnt x85.lb.length ++ x85.lb))⟩ [1, 3, 45, 46, 47] rfl (by kernel_rfl) (by show outs.length - (j + 1) < outs.length - j; omega) ⟨⟨by omega, by rw [hbj, outsB, outsB, flat_snoc hx86]; simp only [TOut.bytes, List.append_assoc], by omega⟩, H108⟩
  · skip
    have hb43f := of_decide_eq_true hb43
    refine G.yes rfl ?_
    refine G.skipK hK42 (fun _ _ h => h) ?_
    refine G.seqK fun K109 hK110 => ?_
    refine G.block ?_
    refine G.seqK fun K111 hK112 => ?_
    refine G.region ?_
    obtain ⟨x113, hx114⟩ : ∃ x, ins[i]? = some x := ⟨_, List.getElem?_eq_getElem (by omega)⟩
    have hok115 := hI x113 (List.mem_of_getElem? hx114)
    have hfrx113 := hok115.1
    have hixx113 := hok115.2.1
    have hsqx113 := hok115.2.2.1
    have hklx113 := h4 x113 (List.mem_of_getElem? hx114)
    refine GL.sem (j := 1) (run_idxRdN (P := Try.prog) (k := .i64) (t := 23) (sz := 35) (A := A) (len := ins.length) (cap := ca) (j := i) (by kernel_rfl) rfl (hIns.hp H38) (insC_length (fun x_ h_ => (hI x_ h_).1)) (by decide) (by omega)) [1, 3, 18, 19, 20, 22] [(1, pt p3 0), (3, pt p9 0), (18, .slice A ins.length ca), (19, .int .i64 (ins.length : Int)), (20, .int .i64 (i : Int)), (22, .pointer (Option.map (fun x => Addr.add x (i * 35)) A))] (by kernel_rfl) (by kernel_rfl) rfl ?_
    refine GL.sem (j := 2) (run_ldRdA (P := Try.prog) (ty := 53) (A := A) (o := (i * 35)) (m := 35) (sub := x113.cells) (by kernel_rfl) (hIns.hp H38) (insC_cut (fun x_ h_ => (hI x_ h_).1) hx114) (TIn.cells_length hok115.1) (by decide)) [1, 3, 18, 19, 20, 23] [(1, pt p3 0), (3, pt p9 0), (18, .slice A ins.length ca), (19, .int .i64 (ins.length : Int)), (20, .int .i64 (i : Int)), (23, .agg (x113.cells).toArray)] (by kernel_rfl) (by kernel_rfl) rfl ?_
    obtain ⟨p116, w117, r118, H119⟩ := H38.alloc (P := Try.prog) 53 (TIn.nil.cells) (by kernel_rfl)
    have H119 : Hp w [] [.blk p9 [.slice A_i m_i c_i] 114, .row A_i m_i c_i 5 1 (by8 b_i), .blk p3 [.int .u32 (v : Int), .slice A ins.length ca, .slice B outs.length cb, .int .u32 (lt : Int)] 26, .blk p116 (TIn.nil.cells) 53] w117 := H119
    refine GL.sem (j := 3) (r118) [1, 3, 5, 18, 19, 20, 23] [(1, pt p3 0), (3, pt p9 0), (5, pt p116 0), (18, .slice A ins.length ca), (19, .int .i64 (ins.length : Int)), (20, .int .i64 (i : Int)), (23, .agg (x113.cells).toArray)] (by kernel_rfl) (by kernel_rfl) rfl ?_
    obtain ⟨w120, r121, H122⟩ := H119.stA (P := Try.prog) (o := 0) (vs := x113.cells) (ty := 53) (m := 35) 3 rfl (by kernel_rfl) (TIn.cells_length hok115.1) (by rw [Nat.zero_add, TIn.cells_length rfl]; exact Nat.le_refl _) TIn.cells_one
    rw [tx_whole (TIn.cells_length rfl)] at H122
    have H122 : Hp w [] [.blk p9 [.slice A_i m_i c_i] 114, .row A_i m_i c_i 5 1 (by8 b_i), .blk p3 [.int .u32 (v : Int), .slice A ins.length ca, .slice B outs.length cb, .int .u32 (lt : Int)] 26, .blk p116 (x113.cells) 53] w120 := H122
    refine GL.semU (j := 4) r121 [1, 3, 5, 18, 19, 20] [(1, pt p3 0), (3, pt p9 0), (5, pt p116 0), (18, .slice A ins.length ca), (19, .int .i64 (ins.length : Int)), (20, .int .i64 (i : Int))] (by kernel_rfl) rfl rfl rfl ?_
    refine GL.k rfl hK112 (fun _ _ h => h) ?_
    refine G.seqK fun K123 hK124 => ?_
    refine G.region ?_
    refine GL.run (j := 2) 2 [1, 3, 5, 18, 19, 20, 25] [(1, pt p3 0), (3, pt p9 0), (5, pt p116 0), (18, .slice A ins.length ca), (19, .int .i64 (ins.length : Int)), (20, .int .i64 (i : Int)), (25, .slice (some ⟨p116, 0, none⟩) 32 32)] (by kernel_rfl) rfl ?_
    refine GL.call (j := 3) (WRaw_calls (ids [.blk p9 [.slice A_i m_i c_i] 114, .row A_i m_i c_i 5 1 (by8 b_i)]) p9 A_i m_i c_i b_i (some ⟨p116, 0, none⟩) 32 32 x113.fr w120 (Hp.startL (A := [.blk p9 [.slice A_i m_i c_i] 114, .row A_i m_i c_i 5 1 (by8 b_i)]) (B := [.blk p3 [.int .u32 (v : Int), .slice A ins.length ca, .slice B outs.length cb, .int .u32 (lt : Int)] 26, .blk p116 (x113.cells) 53]) H122) (by omega) (RdO.blk (A' := [.blk p9 [.slice A_i m_i c_i] 114, .row A_i m_i c_i 5 1 (by8 b_i)]) (B' := [.blk p3 [.int .u32 (v : Int), .slice A ins.length ca, .slice B outs.length cb, .int .u32 (lt : Int)] 26, .blk p116 (x113.cells) 53]) H122 1 32 rfl (TIn.cells_fr hok115.1)) (by first | rfl | omega | (simp only [List.length_cons, List.length_nil, List.length_drop, List.length_take, List.length_append] <;> omega)) (by omega)) (by kernel_rfl) rfl (fun e_ w127 hR => ?_)
    obtain ⟨A125, c126, rfl, H129⟩ := hR
    have H128 : Hp w [] [.blk p9 [.slice A125 (m_i + 32) c126] 114, .row A125 (m_i + 32) c126 5 1 (by8 (b_i ++ x113.fr)), .blk p3 [.int .u32 (v : Int), .slice A ins.length ca, .slice B outs.length cb, .int .u32 (lt : Int)] 26, .blk p116 (x113.cells) 53] w127 := Hp.callL (A := [.blk p9 [.slice A_i m_i c_i] 114, .row A_i m_i c_i 5 1 (by8 b_i)]) (B := [.blk p3 [.int .u32 (v : Int), .slice A ins.length ca, .slice B outs.length cb, .int .u32 (lt : Int)] 26, .blk p116 (x113.cells) 53]) H122 H129
    refine ⟨_, rfl, [1, 3, 5, 18, 19, 20], [(1, pt p3 0), (3, pt p9 0), (5, pt p116 0), (18, .slice A ins.length ca), (19, .int .i64 (ins.length : Int)), (20, .int .i64 (i : Int))], by kernel_rfl, ?_⟩
    refine GL.k rfl hK124 (fun _ _ h => h) ?_
    refine G.seqK fun K130 hK131 => ?_
    refine G.region ?_
    refine GL.run (j := 1) 1 [1, 3, 5, 18, 19, 20, 27] [(1, pt p3 0), (3, pt p9 0), (5, pt p116 0), (18, .slice A ins.length ca), (19, .int .i64 (ins.length : Int)), (20, .int .i64 (i : Int)), (27, pt p116 32)] (by kernel_rfl) rfl ?_
    refine GL.sem (j := 2) (H128.ld (o := 32) (ty := 22) (v := .int .u32 (x113.ix : Int)) 3 rfl (by kernel_rfl) (TIn.cells_ix hok115.1)) [1, 3, 5, 18, 19, 20, 28] [(1, pt p3 0), (3, pt p9 0), (5, pt p116 0), (18, .slice A ins.length ca), (19, .int .i64 (ins.length : Int)), (20, .int .i64 (i : Int)), (28, .int .u32 (x113.ix : Int))] (by kernel_rfl) (by kernel_rfl) rfl ?_
    refine GL.run (j := 3) 1 [1, 3, 5, 18, 19, 20, 29] [(1, pt p3 0), (3, pt p9 0), (5, pt p116 0), (18, .slice A ins.length ca), (19, .int .i64 (ins.length : Int)), (20, .int .i64 (i : Int)), (29, .int .u64 (IntKind.u64.wrap (x113.ix : Int)))] (by kernel_rfl) rfl ?_
    have e132 : (IntKind.u64.wrap (x113.ix : Int)) = (x113.ix : Int) := in_u64 (by omega)
    refine GL.eq (M' := [(1, pt p3 0), (3, pt p9 0), (5, pt p116 0), (18, .slice A ins.length ca), (19, .int .i64 (ins.length : Int)), (20, .int .i64 (i : Int)), (29, .int .u64 (x113.ix : Int))]) (by rw [e132]) ?_
    clear e132
    refine GL.call (j := 4) (Put4_calls (ids [.blk p9 [.slice A125 (m_i + 32) c126] 114, .row A125 (m_i + 32) c126 5 1 (by8 (b_i ++ x113.fr))]) p9 A125 (m_i + 32) c126 (b_i ++ x113.fr) x113.ix w127 (Hp.startL (A := [.blk p9 [.slice A125 (m_i + 32) c126] 114, .row A125 (m_i + 32) c126 5 1 (by8 (b_i ++ x113.fr))]) (B := [.blk p3 [.int .u32 (v : Int), .slice A ins.length ca, .slice B outs.length cb, .int .u32 (lt : Int)] 26, .blk p116 (x113.cells) 53]) H128) (by omega)) (by kernel_rfl) rfl (fun e_ w135 hR => ?_)
    obtain ⟨A133, c134, rfl, H137⟩ := hR
    have H136 : Hp w [] [.blk p9 [.slice A133 ((m_i + 32) + 4) c134] 114, .row A133 ((m_i + 32) + 4) c134 5 1 (by8 ((b_i ++ x113.fr) ++ (putB x113.ix 4))), .blk p3 [.int .u32 (v : Int), .slice A ins.length ca, .slice B outs.length cb, .int .u32 (lt : Int)] 26, .blk p116 (x113.cells) 53] w135 := Hp.callL (A := [.blk p9 [.slice A125 (m_i + 32) c126] 114, .row A125 (m_i + 32) c126 5 1 (by8 (b_i ++ x113.fr))]) (B := [.blk p3 [.int .u32 (v : Int), .slice A ins.length ca, .slice B outs.length cb, .int .u32 (lt : Int)] 26, .blk p116 (x113.cells) 53]) H128 H137
    refine ⟨_, rfl, [1, 3, 5, 18, 19, 20], [(1, pt p3 0), (3, pt p9 0), (5, pt p116 0), (18, .slice A ins.length ca), (19, .int .i64 (ins.length : Int)), (20, .int .i64 (i : Int))], by kernel_rfl, ?_⟩
    refine GL.k rfl hK131 (fun _ _ h => h) ?_
    refine G.seqK fun K138 hK139 => ?_
    refine G.region ?_
    refine GL.run (j := 1) 1 [1, 3, 5, 18, 19, 20, 31] [(1, pt p3 0), (3, pt p9 0), (5, pt p116 0), (18, .slice A ins.length ca), (19, .int .i64 (ins.length : Int)), (20, .int .i64 (i : Int)), (31, pt p116 33)] (by kernel_rfl) rfl ?_
    refine GL.sem (j := 2) (H136.ld (o := 33) (ty := 38) (v := .slice x113.B x113.kb.length x113.kc) 3 rfl (by kernel_rfl) (TIn.cells_key hok115.1)) [1, 3, 5, 18, 19, 20, 32] [(1, pt p3 0), (3, pt p9 0), (5, pt p116 0), (18, .slice A ins.length ca), (19, .int .i64 (ins.length : Int)), (20, .int .i64 (i : Int)), (32, .slice x113.B x113.kb.length x113.kc)] (by kernel_rfl) (by kernel_rfl) rfl ?_
    have hcA140 := cntSz_le x113.kb.length
    refine GL.call (j := 3) (WCounted_calls (ids [.blk p9 [.slice A133 ((m_i + 32) + 4) c134] 114, .row A133 ((m_i + 32) + 4) c134 5 1 (by8 ((b_i ++ x113.fr) ++ (putB x113.ix 4)))]) p9 A133 ((m_i + 32) + 4) c134 ((b_i ++ x113.fr) ++ (putB x113.ix 4)) x113.B x113.kb.length x113.kc x113.kb w135 (Hp.startL (A := [.blk p9 [.slice A133 ((m_i + 32) + 4) c134] 114, .row A133 ((m_i + 32) + 4) c134 5 1 (by8 ((b_i ++ x113.fr) ++ (putB x113.ix 4)))]) (B := [.blk p3 [.int .u32 (v : Int), .slice A ins.length ca, .slice B outs.length cb, .int .u32 (lt : Int)] 26, .blk p116 (x113.cells) 53]) H136) (by omega) (RdO.mid (A' := [.blk p9 [.slice A133 ((m_i + 32) + 4) c134] 114, .row A133 ((m_i + 32) + 4) c134 5 1 (by8 ((b_i ++ x113.fr) ++ (putB x113.ix 4)))]) (B' := [.blk p3 [.int .u32 (v : Int), .slice A ins.length ca, .slice B outs.length cb, .int .u32 (lt : Int)] 26, .blk p116 (x113.cells) 53]) hok115.2.2.2.1 H136) (rfl) (by omega)) (by kernel_rfl) rfl (fun e_ w142 hR => ?_)
    obtain ⟨A140, c141, rfl, H144⟩ := hR
    have H143 : Hp w [] [.blk p9 [.slice A140 (((m_i + 32) + 4) + (cntSz x113.kb.length + x113.kb.length)) c141] 114, .row A140 (((m_i + 32) + 4) + (cntSz x113.kb.length + x113.kb.length)) c141 5 1 (by8 (((b_i ++ x113.fr) ++ (putB x113.ix 4)) ++ (cnt x113.kb.length ++ x113.kb))), .blk p3 [.int .u32 (v : Int), .slice A ins.length ca, .slice B outs.length cb, .int .u32 (lt : Int)] 26, .blk p116 (x113.cells) 53] w142 := Hp.callL (A := [.blk p9 [.slice A133 ((m_i + 32) + 4) c134] 114, .row A133 ((m_i + 32) + 4) c134 5 1 (by8 ((b_i ++ x113.fr) ++ (putB x113.ix 4)))]) (B := [.blk p3 [.int .u32 (v : Int), .slice A ins.length ca, .slice B outs.length cb, .int .u32 (lt : Int)] 26, .blk p116 (x113.cells) 53]) H136 H144
    refine ⟨_, rfl, [1, 3, 5, 18, 19, 20], [(1, pt p3 0), (3, pt p9 0), (5, pt p116 0), (18, .slice A ins.length ca), (19, .int .i64 (ins.length : Int)), (20, .int .i64 (i : Int))], by kernel_rfl, ?_⟩
    refine GL.k rfl hK139 (fun _ _ h => h) ?_
    refine G.region ?_
    refine GL.run (j := 1) 1 [1, 3, 18, 19, 20, 34] [(1, pt p3 0), (3, pt p9 0), (18, .slice A ins.length ca), (19, .int .i64 (ins.length : Int)), (20, .int .i64 (i : Int)), (34, pt p116 34)] (by kernel_rfl) rfl ?_
    refine GL.sem (j := 2) (H143.ld (o := 34) (ty := 22) (v := .int .u32 (x113.sq : Int)) 3 rfl (by kernel_rfl) (TIn.cells_sq hok115.1)) [1, 3, 18, 19, 20, 35] [(1, pt p3 0), (3, pt p9 0), (18, .slice A ins.length ca), (19, .int .i64 (ins.length : Int)), (20, .int .i64 (i : Int)), (35, .int .u32 (x113.sq : Int))] (by kernel_rfl) (by kernel_rfl) rfl ?_
    refine GL.run (j := 3) 1 [1, 3, 18, 19, 20, 36] [(1, pt p3 0), (3, pt p9 0), (18, .slice A ins.length ca), (19, .int .i64 (ins.length : Int)), (20, .int .i64 (i : Int)), (36, .int .u64 (IntKind.u64.wrap (x113.sq : Int)))] (by kernel_rfl) rfl ?_
    have e145 : (IntKind.u64.wrap (x113.sq : Int)) = (x113.sq : Int) := in_u64 (by omega)
    refine GL.eq (M' := [(1, pt p3 0), (3, pt p9 0), (18, .slice A ins.length ca), (19, .int .i64 (ins.length : Int)), (20, .int .i64 (i : Int)), (36, .int .u64 (x113.sq : Int))]) (by rw [e145]) ?_
    clear e145
    refine GL.call (j := 4) (Put4_calls (ids [.blk p9 [.slice A140 (((m_i + 32) + 4) + (cntSz x113.kb.length + x113.kb.length)) c141] 114, .row A140 (((m_i + 32) + 4) + (cntSz x113.kb.length + x113.kb.length)) c141 5 1 (by8 (((b_i ++ x113.fr) ++ (putB x113.ix 4)) ++ (cnt x113.kb.length ++ x113.kb)))]) p9 A140 (((m_i + 32) + 4) + (cntSz x113.kb.length + x113.kb.length)) c141 (((b_i ++ x113.fr) ++ (putB x113.ix 4)) ++ (cnt x113.kb.length ++ x113.kb)) x113.sq w142 (Hp.startL (A := [.blk p9 [.slice A140 (((m_i + 32) + 4) + (cntSz x113.kb.length + x113.kb.length)) c141] 114, .row A140 (((m_i + 32) + 4) + (cntSz x113.kb.length + x113.kb.length)) c141 5 1 (by8 (((b_i ++ x113.fr) ++ (putB x113.ix 4)) ++ (cnt x113.kb.length ++ x113.kb)))]) (B := [.blk p3 [.int .u32 (v : Int), .slice A ins.length ca, .slice B outs.length cb, .int .u32 (lt : Int)] 26, .blk p116 (x113.cells) 53]) H143) (by omega)) (by kernel_rfl) rfl (fun e_ w148 hR => ?_)
    obtain ⟨A146, c147, rfl, H150⟩ := hR
    have H149 : Hp w [] [.blk p9 [.slice A146 ((((m_i + 32) + 4) + (cntSz x113.kb.length + x113.kb.length)) + 4) c147] 114, .row A146 ((((m_i + 32) + 4) + (cntSz x113.kb.length + x113.kb.length)) + 4) c147 5 1 (by8 ((((b_i ++ x113.fr) ++ (putB x113.ix 4)) ++ (cnt x113.kb.length ++ x113.kb)) ++ (putB x113.sq 4))), .blk p3 [.int .u32 (v : Int), .slice A ins.length ca, .slice B outs.length cb, .int .u32 (lt : Int)] 26, .blk p116 (x113.cells) 53] w148 := Hp.callL (A := [.blk p9 [.slice A140 (((m_i + 32) + 4) + (cntSz x113.kb.length + x113.kb.length)) c141] 114, .row A140 (((m_i + 32) + 4) + (cntSz x113.kb.length + x113.kb.length)) c141 5 1 (by8 (((b_i ++ x113.fr) ++ (putB x113.ix 4)) ++ (cnt x113.kb.length ++ x113.kb)))]) (B := [.blk p3 [.int .u32 (v : Int), .slice A ins.length ca, .slice B outs.length cb, .int .u32 (lt : Int)] 26, .blk p116 (x113.cells) 53]) H143 H150
    refine ⟨_, rfl, [1, 3, 18, 19, 20], [(1, pt p3 0), (3, pt p9 0), (18, .slice A ins.length ca), (19, .int .i64 (ins.length : Int)), (20, .int .i64 (i : Int))], by kernel_rfl, ?_⟩
    refine GL.k rfl hK110 (fun _ _ h => h) ?_
    refine G.region ?_
    refine GL.run (j := 2) 2 [1, 3, 18, 19, 20] [(1, pt p3 0), (3, pt p9 0), (18, .slice A ins.length ca), (19, .int .i64 (ins.length : Int)), (20, .int .i64 (IntKind.i64.wrap ((i : Int) + 1)))] (by kernel_rfl) rfl ?_
    have e151 : (IntKind.i64.wrap ((i : Int) + 1)) = ((i + 1 : Nat) : Int) := by rw [in_i64 (by omega)]; omega
    refine GL.eq (M' := [(1, pt p3 0), (3, pt p9 0), (18, .slice A ins.length ca), (19, .int .i64 (ins.length : Int)), (20, .int .i64 ((i + 1 : Nat) : Int))]) (by rw [e151]) ?_
    clear e151
    have H152 : Hp w [] [.blk p9 [.slice A146 ((((m_i + 32) + 4) + (cntSz x113.kb.length + x113.kb.length)) + 4) c147] 114, .row A146 ((((m_i + 32) + 4) + (cntSz x113.kb.length + x113.kb.length)) + 4) c147 5 1 (by8 ((((b_i ++ x113.fr) ++ (putB x113.ix 4)) ++ (cnt x113.kb.length ++ x113.kb)) ++ (putB x113.sq 4))), .blk p3 [.int .u32 (v : Int), .slice A ins.length ca, .slice B outs.length cb, .int .u32 (lt : Int)] 26] w148 := H149.sub (List.Sublist.cons_cons _ (List.Sublist.cons_cons _ (List.Sublist.cons_cons _ (List.Sublist.cons _ (List.Sublist.slnil)))))
    refine GL.fit (ts := [1, 3, 18, 19, 20]) (M' := [(1, pt p3 0), (3, pt p9 0), (18, .slice A ins.length ca), (19, .int .i64 (ins.length : Int)), (20, .int .i64 ((i + 1 : Nat) : Int))]) (by kernel_rfl) ?_
    refine GL.eq (M' := [(1, pt p3 0), (3, pt p9 0), (18, .slice A ins.length ca), (19, .int .i64 (ins.length : Int)), (20, .int .i64 (((i + 1) : Nat) : Int))]) (by rfl) ?_
    exact GL.again ⟨(i + 1), A146, c147, ((((m_i + 32) + 4) + (cntSz x113.kb.length + x113.kb.length)) + 4), ((((b_i ++ x113.fr) ++ (putB x113.ix 4)) ++ (cnt x113.kb.length ++ x113.kb)) ++ (putB x113.sq 4))⟩ [1, 3, 18, 19, 20] rfl (by kernel_rfl) (by show ins.length - (i + 1) < ins.length - i; omega) ⟨⟨by omega, by rw [hbi, insB, insB, flat_snoc hx114]; simp only [TIn.bytes, List.append_assoc], by omega⟩, H152⟩
end Go.Proofs.Ytcedmbdahbdmaaa
set_option maxRecDepth 100000
namespace Go.Proofs.Ytcedmbdahbdmaaa
open Go.RowKit
theorem Right_calls (a : Nat) (w : World) : Calls Try.prog 31 #[.int .u64 (a : Int)] w fun e w' => e = .returned (.bool (decide (a ≤ 4611686018427387904))) ∧ Hp w [] [] w' := by
  refine calls_G (args := [.int .u64 (a : Int)]) Try.func31 rfl Try.ntmps31 rfl ?_
  intro Q0 hRet hNor hPan
  have H := Hp.start w
  have H : Hp w [] [] w := H
  refine G.seqK fun K1 hK2 => ?_
  refine G.region ?_
  refine GL.run (j := 1) 1 [0] [(0, .int .u64 (a : Int))] (by kernel_rfl) rfl ?_
  refine GL.k rfl hK2 (fun _ _ h => h) ?_
  refine G.seqK fun K3 hK4 => ?_
  refine G.region ?_
  refine GL.run (j := 3) 3 [2] [(2, .bool (decide ((a : Int) ≤ 4611686018427387904)))] (by kernel_rfl) rfl ?_
  refine GL.k rfl hK4 (fun _ _ h => h) ?_
  refine G.ret ?_
  intro F_ hF_ hM_
  refine hRet _ _ (bodyPost_1 rfl (RV.tmp rfl) ?_ F_ hF_ hM_)
  have e0 : ((decide ((a : Int) ≤ 4611686018427387904)) : Bool) = decide (a ≤ 4611686018427387904) := by
    rw [Bool.eq_iff_iff]; simp only [decide_eq_true_eq]; omega
  rw [e0]
  exact ⟨rfl, H.sub (List.nil_sublist _)⟩
theorem Bytes1_calls (x : TOut) (w : World) : Calls Try.prog 50 #[.agg #[.int .u64 (x.pv : Int), .slice x.B x.lb.length x.lc]] w fun e w' => e = .returned (.bool (decide (4611686018427387904 < x.pv))) ∧ Hp w [] [] w' := by
  refine calls_G (args := [.agg #[.int .u64 (x.pv : Int), .slice x.B x.lb.length x.lc]]) Try.func50 rfl Try.ntmps50 rfl ?_
  intro Q0 hRet hNor hPan
  have H := Hp.start w
  have H : Hp w [] [] w := H
  refine G.seqK fun K1 hK2 => ?_
  refine G.region ?_
  obtain ⟨p3, w4, r5, H6⟩ := H.box (P := Try.prog) 40 [.int .u64 (x.pv : Int), .slice x.B x.lb.length x.lc] (.agg #[.int .u64 (x.pv : Int), .slice x.B x.lb.length x.lc]) rfl
  have H6 : Hp w [] [.blk p3 [.int .u64 (x.pv : Int), .slice x.B x.lb.length x.lc] 40] w4 := H6
  refine GL.sem (j := 1) (r5) [1] [(1, pt p3 0)] (by kernel_rfl) (by kernel_rfl) rfl ?_
  refine GL.run (j := 2) 1 [1] [(1, pt p3 0)] (by kernel_rfl) rfl ?_
  refine GL.k rfl hK2 (fun _ _ h => h) ?_
  refine G.seqK fun K7 hK8 => ?_
  refine G.region ?_
  refine GL.run (j := 1) 1 [3] [(3, pt p3 0)] (by kernel_rfl) rfl ?_
  refine GL.sem (j := 2) (H6.ld (o := 0) (ty := 32) (v := .int .u64 (x.pv : Int)) 0 rfl (by kernel_rfl) rfl) [4] [(4, .int .u64 (x.pv : Int))] (by kernel_rfl) (by kernel_rfl) rfl ?_
  refine GL.call (j := 3) (Right_calls x.pv w4) (by kernel_rfl) rfl (fun e_ w9 hR => ?_)
  obtain ⟨rfl, H11⟩ := hR
  have H10 : Hp w [] [.blk p3 [.int .u64 (x.pv : Int), .slice x.B x.lb.length x.lc] 40] w9 := H6.callNil H11
  refine ⟨_, rfl, [5], [(5, .bool (decide (x.pv ≤ 4611686018427387904)))], by kernel_rfl, ?_⟩
  refine GL.run (j := 5) 2 [2] [(2, .bool (!(decide (x.pv ≤ 4611686018427387904))))] (by kernel_rfl) rfl ?_
  refine GL.k rfl hK8 (fun _ _ h => h) ?_
  refine G.ret ?_
  intro F_ hF_ hM_
  refine hRet _ _ (bodyPost_1 rfl (RV.tmp rfl) ?_ F_ hF_ hM_)
  have e0 : ((!(decide (x.pv ≤ 4611686018427387904))) : Bool) = (decide (4611686018427387904 < x.pv)) := by
    rw [Bool.eq_iff_iff]; simp only [Bool.not_eq_true', decide_eq_false_iff_not, decide_eq_true_eq]; omega
  rw [e0]
  exact ⟨rfl, H10.sub (List.nil_sublist _)⟩
theorem IndexO_calls (outs : List TOut) (B : Option Addr) (cb : Nat) (w : World) (hOuts : RdS w B (outsC outs)) (hO : ∀ x ∈ outs, x.Ok w []) (hno : outs.length ≤ maxLen) : Calls Try.prog 67 #[.slice B outs.length cb, .func (.func 50) #[] #[]] w fun e w' => ∃ r : Int, e = .returned (.int .i64 r) ∧ (0 ≤ r ↔ ∃ x ∈ outs, 4611686018427387904 < x.pv) ∧ Hp w [] [] w' := by
  have hno_ : outs.length ≤ 9223372036854775807 := hno
  refine calls_G (args := [.slice B outs.length cb, .func (.func 50) #[] #[]]) Try.func67 rfl Try.ntmps67 rfl ?_
  intro Q0 hRet hNor hPan
  have H := Hp.start w
  have H : Hp w [] [] w := H
  refine G.seqK fun K1 hK2 => ?_
  refine G.region ?_
  refine GL.run (j := 1) 1 [0, 1] [(0, .slice B outs.length cb), (1, .func (.func 50) #[] #[])] (by kernel_rfl) rfl ?_
  refine GL.k rfl hK2 (fun _ _ h => h) ?_
  refine G.seqK fun K3 hK4 => ?_
  refine G.seqK fun K5 hK6 => ?_
  refine G.region ?_
  refine GL.run (j := 3) 3 [0, 1, 7, 8] [(0, .slice B outs.length cb), (1, .func (.func 50) #[] #[]), (7, .int .i64 (outs.length : Int)), (8, .int .i64 0)] (by kernel_rfl) rfl ?_
  refine GL.k rfl hK6 (fun _ _ h => h) ?_
  refine G.block ?_
  refine G.fit [0, 1, 7, 8] (M' := [(0, .slice B outs.length cb), (1, .func (.func 50) #[] #[]), (7, .int .i64 (outs.length : Int)), (8, .int .i64 0)]) (by kernel_rfl) ?_
  refine G.loop (X := Nat) (fun i => [(0, .slice B outs.length cb), (1, .func (.func 50) #[] #[]), (7, .int .i64 (outs.length : Int)), (8, .int .i64 (i : Int))]) (fun i w_ => (i ≤ outs.length ∧ (∀ y ∈ outs.take i, y.pv ≤ 4611686018427387904)) ∧ Hp w [] [] w_) (fun i => outs.length - i) 0 [0, 1, 7, 8] (by kernel_rfl) ⟨⟨Nat.zero_le _, fun y hy => by simp at hy⟩, H⟩ ?_
  rintro i w7 ⟨hi8, H9⟩
  refine G.eq (M' := [(0, .slice B outs.length cb), (1, .func (.func 50) #[] #[]), (7, .int .i64 (outs.length : Int)), (8, .int .i64 (i : Int))]) rfl ?_
  have H9 : Hp w [] [] w7 := H9
  obtain ⟨hil, hia⟩ := hi8
  refine G.seqK fun K10 hK11 => ?_
  refine G.region ?_
  refine GL.run (j := 1) 1 [0, 1, 7, 8, 9] [(0, .slice B outs.length cb), (1, .func (.func 50) #[] #[]), (7, .int .i64 (outs.length : Int)), (8, .int .i64 (i : Int)), (9, .bool (decide ((i : Int) < (outs.length : Int))))] (by kernel_rfl) rfl ?_
  refine GL.k rfl hK11 (fun _ _ h => h) ?_
  refine G.seqK fun K12 hK13 => ?_
  cases hb14 : (decide ((i : Int) < (outs.length : Int)))
  · skip
    have hb14f := of_decide_eq_false hb14
    refine G.no rfl ?_
    refine G.exitK hK4 (fun _ _ h => h) ?_
    refine G.seqK fun K15 hK16 => ?_
    refine G.region ?_
    refine GL.run (j := 1) 1 [4] [(4, .int .i64 (-1))] (by kernel_rfl) rfl ?_
    refine GL.k rfl hK16 (fun _ _ h => h) ?_
    refine G.ret ?_
    intro F_ hF_ hM_
    refine hRet _ _ (bodyPost_1 rfl (RV.tmp rfl) ?_ F_ hF_ hM_)
    exact ⟨_, rfl, ⟨fun h => by omega, fun ⟨y, hy, h⟩ => by have := take_done hia (by omega) y hy; omega⟩, H9.sub (List.nil_sublist _)⟩
  · skip
    have hb14f := of_decide_eq_true hb14
    refine G.yes rfl ?_
    refine G.skipK hK13 (fun _ _ h => h) ?_
    refine G.seqK fun K17 hK18 => ?_
    refine G.block ?_
    refine G.seqK fun K19 hK20 => ?_
    refine G.region ?_
    refine GL.run (j := 2) 2 [0, 1, 5, 7, 8] [(0, .slice B outs.length cb), (1, .func (.func 50) #[] #[]), (5, .int .i64 (i : Int)), (7, .int .i64 (outs.length : Int)), (8, .int .i64 (i : Int))] (by kernel_rfl) rfl ?_
    refine GL.k rfl hK20 (fun _ _ h => h) ?_
    refine G.seqK fun K21 hK22 => ?_
    refine G.region ?_
    refine GL.run (j := 3) 3 [0, 1, 5, 7, 8, 11, 12, 13] [(0, .slice B outs.length cb), (1, .func (.func 50) #[] #[]), (5, .int .i64 (i : Int)), (7, .int .i64 (outs.length : Int)), (8, .int .i64 (i : Int)), (11, .func (.func 50) #[] #[]), (12, .slice B outs.length cb), (13, .int .i64 (i : Int))] (by kernel_rfl) rfl ?_
    obtain ⟨x23, hx24⟩ : ∃ x, outs[i]? = some x := ⟨_, List.getElem?_eq_getElem (by omega)⟩
    have hok25 := hO x23 (List.mem_of_getElem? hx24)
    refine GL.sem (j := 4) (run_idxRdN (P := Try.prog) (k := .i64) (t := 24) (sz := 2) (A := B) (len := outs.length) (cap := cb) (j := i) (by kernel_rfl) rfl (hOuts.hp H9) (outsC_length _) (by decide) (by omega)) [0, 1, 5, 7, 8, 11, 14] [(0, .slice B outs.length cb), (1, .func (.func 50) #[] #[]), (5, .int .i64 (i : Int)), (7, .int .i64 (outs.length : Int)), (8, .int .i64 (i : Int)), (11, .func (.func 50) #[] #[]), (14, .pointer (Option.map (fun x => Addr.add x (i * 2)) B))] (by kernel_rfl) (by kernel_rfl) rfl ?_
    refine GL.sem (j := 5) (run_ldRdA (P := Try.prog) (ty := 40) (A := B) (o := (i * 2)) (m := 2) (sub := [.int .u64 (x23.pv : Int), .slice x23.B x23.lb.length x23.lc]) (by kernel_rfl) (hOuts.hp H9) (outsC_cut hx24) (rfl) (by decide)) [0, 1, 5, 7, 8, 11, 15] [(0, .slice B outs.length cb), (1, .func (.func 50) #[] #[]), (5, .int .i64 (i : Int)), (7, .int .i64 (outs.length : Int)), (8, .int .i64 (i : Int)), (11, .func (.func 50) #[] #[]), (15, .agg #[.int .u64 (x23.pv : Int), .slice x23.B x23.lb.length x23.lc])] (by kernel_rfl) (by kernel_rfl) rfl ?_
    refine GL.call (j := 6) (Bytes1_calls x23 w7) (by kernel_rfl) rfl (fun e_ w26 hR => ?_)
    obtain ⟨rfl, H28⟩ := hR
    have H27 : Hp w [] [] w26 := H9.callNil H28
    refine ⟨_, rfl, [0, 1, 5, 7, 8, 16], [(0, .slice B outs.length cb), (1, .func (.func 50) #[] #[]), (5, .int .i64 (i : Int)), (7, .int .i64 (outs.length : Int)), (8, .int .i64 (i : Int)), (16, .bool (decide (4611686018427387904 < x23.pv)))], by kernel_rfl, ?_⟩
    refine GL.k rfl hK22 (fun _ _ h => h) ?_
    cases hb29 : (decide (4611686018427387904 < x23.pv))
    · skip
      have hb29f := of_decide_eq_false hb29
      refine G.no rfl ?_
      refine G.skipK hK18 (fun _ _ h => h) ?_
      refine G.region ?_
      refine GL.run (j := 2) 2 [0, 1, 7, 8] [(0, .slice B outs.length cb), (1, .func (.func 50) #[] #[]), (7, .int .i64 (outs.length : Int)), (8, .int .i64 (IntKind.i64.wrap ((i : Int) + 1)))] (by kernel_rfl) rfl ?_
      have e30 : (IntKind.i64.wrap ((i : Int) + 1)) = ((i + 1 : Nat) : Int) := by rw [in_i64 (by omega)]; omega
      refine GL.eq (M' := [(0, .slice B outs.length cb), (1, .func (.func 50) #[] #[]), (7, .int .i64 (outs.length : Int)), (8, .int .i64 ((i + 1 : Nat) : Int))]) (by rw [e30]) ?_
      clear e30
      refine GL.fit (ts := [0, 1, 7, 8]) (M' := [(0, .slice B outs.length cb), (1, .func (.func 50) #[] #[]), (7, .int .i64 (outs.length : Int)), (8, .int .i64 ((i + 1 : Nat) : Int))]) (by kernel_rfl) ?_
      refine GL.eq (M' := [(0, .slice B outs.length cb), (1, .func (.func 50) #[] #[]), (7, .int .i64 (outs.length : Int)), (8, .int .i64 (((i + 1) : Nat) : Int))]) (by rfl) ?_
      exact GL.again (i + 1) [0, 1, 7, 8] rfl (by kernel_rfl) (by show outs.length - (i + 1) < outs.length - i; omega) ⟨⟨by omega, take_all hia hx24 (by omega)⟩, H27⟩
    · skip
      have hb29f := of_decide_eq_true hb29
      refine G.yes rfl ?_
      refine G.seqK fun K31 hK32 => ?_
      refine G.region ?_
      refine GL.run (j := 2) 2 [4] [(4, .int .i64 (i : Int))] (by kernel_rfl) rfl ?_
      refine GL.k rfl hK32 (fun _ _ h => h) ?_
      refine G.ret ?_
      intro F_ hF_ hM_
      refine hRet _ _ (bodyPost_1 rfl (RV.tmp rfl) ?_ F_ hF_ hM_)
      exact ⟨_, rfl, ⟨fun _ => ⟨x23, List.mem_of_getElem? hx24, by omega⟩, fun _ => by omega⟩, H27.sub (List.nil_sublist _)⟩
theorem ContainsO_calls (outs : List TOut) (B : Option Addr) (cb : Nat) (w : World) (hOuts : RdS w B (outsC outs)) (hO : ∀ x ∈ outs, x.Ok w []) (hno : outs.length ≤ maxLen) : Calls Try.prog 49 #[.slice B outs.length cb, .func (.func 50) #[] #[]] w fun e w' => e = .returned (.bool (decide (∃ x ∈ outs, 4611686018427387904 < x.pv))) ∧ Hp w [] [] w' := by
  refine calls_G (args := [.slice B outs.length cb, .func (.func 50) #[] #[]]) Try.func49 rfl Try.ntmps49 rfl ?_
  intro Q0 hRet hNor hPan
  have H := Hp.start w
  have H : Hp w [] [] w := H
  refine G.seqK fun K1 hK2 => ?_
  refine G.region ?_
  refine GL.run (j := 1) 1 [0, 1] [(0, .slice B outs.length cb), (1, .func (.func 50) #[] #[])] (by kernel_rfl) rfl ?_
  refine GL.k rfl hK2 (fun _ _ h => h) ?_
  refine G.seqK fun K3 hK4 => ?_
  refine G.region ?_
  refine GL.run (j := 2) 2 [5, 6] [(5, .slice B outs.length cb), (6, .func (.func 50) #[] #[])] (by kernel_rfl) rfl ?_
  refine GL.call (j := 3) (IndexO_calls outs B cb w (hOuts.hp H) (oksO_mid hO H) hno) (by kernel_rfl) rfl (fun e_ w9 hR => ?_)
  obtain ⟨r5, rfl, hr6, H8⟩ := hR
  have H7 : Hp w [] [] w9 := H.callNil H8
  refine ⟨_, rfl, [7], [(7, .int .i64 r5)], by kernel_rfl, ?_⟩
  refine GL.run (j := 5) 2 [4] [(4, .bool (decide (0 ≤ r5)))] (by kernel_rfl) rfl ?_
  refine GL.k rfl hK4 (fun _ _ h => h) ?_
  refine G.ret ?_
  intro F_ hF_ hM_
  refine hRet _ _ (bodyPost_1 rfl (RV.tmp rfl) ?_ F_ hF_ hM_)
  have e0 : ((decide (0 ≤ r5)) : Bool) = (decide (∃ x ∈ outs, 4611686018427387904 < x.pv)) := by
    rw [Bool.eq_iff_iff]; simp only [decide_eq_true_eq]; exact hr6
  rw [e0]
  exact ⟨rfl, H7.sub (List.nil_sublist _)⟩
def txE (v : Nat) (ins : List TIn) (outs : List TOut) (lt : Nat) : Nat := if txK ins outs ≠ 0 then txK ins outs else if 4096 < (txB v ins outs lt).length ∨ (txB v ins outs lt).length = 64 then 3 else if ∃ x ∈ outs, 4611686018427387904 < x.pv then 4 else 0
def txO (v : Nat) (ins : List TIn) (outs : List TOut) (lt : Nat) : List UInt8 := if txE v ins outs lt = 0 then txB v ins outs lt else []
theorem TBytes_calls (v : Nat) (ins : List TIn) (A : Option Addr) (ca : Nat) (outs : List TOut) (B : Option Addr) (cb : Nat) (lt : Nat) (w : World) (hv : v < 4294967296) (hlt : lt < 4294967296) (hIns : RdS w A (insC ins)) (hI : ∀ x ∈ ins, x.Ok w []) (hOuts : RdS w B (outsC outs)) (hO : ∀ x ∈ outs, x.Ok w []) (hni : ins.length ≤ maxLen) (hno : outs.length ≤ maxLen) : Calls Try.prog 21 #[.agg #[.int .u32 (v : Int), .slice A ins.length ca, .slice B outs.length cb, .int .u32 (lt : Int)]] w fun e w' => ∃ A' n' c', e = .returned (.tuple #[.slice A' n' c', .int .i64 ((txE v ins outs lt : Nat) : Int)]) ∧ Hp w [] [.row A' n' c' 5 1 (by8 (txO v ins outs lt))] w' := by
  have hni_ : ins.length ≤ 9223372036854775807 := hni
  have hno_ : outs.length ≤ 9223372036854775807 := hno
  refine calls_G (args := [.agg #[.int .u32 (v : Int), .slice A ins.length ca, .slice B outs.length cb, .int .u32 (lt : Int)]]) Try.func21 rfl Try.ntmps21 rfl ?_
  intro Q0 hRet hNor hPan
  have H := Hp.start w
  have H : Hp w [] [] w := H
  refine G.seqK fun K1 hK2 => ?_
  refine G.region ?_
  obtain ⟨p3, w4, r5, H6⟩ := H.box (P := Try.prog) 26 [.int .u32 (v : Int), .slice A ins.length ca, .slice B outs.length cb, .int .u32 (lt : Int)] (.agg #[.int .u32 (v : Int), .slice A ins.length ca, .slice B outs.length cb, .int .u32 (lt : Int)]) rfl
  have H6 : Hp w [] [.blk p3 [.int .u32 (v : Int), .slice A ins.length ca, .slice B outs.length cb, .int .u32 (lt : Int)] 26] w4 := H6
  refine GL.sem (j := 1) (r5) [1] [(1, pt p3 0)] (by kernel_rfl) (by kernel_rfl) rfl ?_
  refine GL.run (j := 3) 2 [1] [(1, pt p3 0)] (by kernel_rfl) rfl ?_
  refine GL.k rfl hK2 (fun _ _ h => h) ?_
  refine G.seqK fun K7 hK8 => ?_
  refine G.seqK fun K9 hK10 => ?_
  refine G.region ?_
  refine GL.sem (j := 1) (H6.ldA (o := 0) (ty := 26) (m := 4) (sub := [.int .u32 (v : Int), .slice A ins.length ca, .slice B outs.length cb, .int .u32 (lt : Int)]) 0 rfl (by kernel_rfl) rfl rfl) [1, 6] [(1, pt p3 0), (6, .agg #[.int .u32 (v : Int), .slice A ins.length ca, .slice B outs.length cb, .int .u32 (lt : Int)])] (by kernel_rfl) (by kernel_rfl) rfl ?_
  refine GL.call (j := 2) (check_calls v ins A ca outs B cb lt w4 hv hlt (hIns.hp H6) (oks_mid hI H6) (hOuts.hp H6) (oksO_mid hO H6) hni hno) (by kernel_rfl) rfl (fun e_ w11 hR => ?_)
  obtain ⟨rfl, H13⟩ := hR
  have H12 : Hp w [] [.blk p3 [.int .u32 (v : Int), .slice A ins.length ca, .slice B outs.length cb, .int .u32 (lt : Int)] 26] w11 := H6.callNil H13
  refine ⟨_, rfl, [1, 7], [(1, pt p3 0), (7, .int .i64 (((txK ins outs) : Nat) : Int))], by kernel_rfl, ?_⟩
  refine GL.run (j := 3) 1 [1, 4] [(1, pt p3 0), (4, .int .i64 (((txK ins outs) : Nat) : Int))] (by kernel_rfl) rfl ?_
  refine GL.k rfl hK10 (fun _ _ h => h) ?_
  refine G.seqK fun K14 hK15 => ?_
  refine G.region ?_
  refine GL.run (j := 2) 2 [1, 4, 9] [(1, pt p3 0), (4, .int .i64 (((txK ins outs) : Nat) : Int)), (9, .bool ((((txK ins outs) : Nat) : Int) != 0))] (by kernel_rfl) rfl ?_
  refine GL.k rfl hK15 (fun _ _ h => h) ?_
  cases hb16 : ((((txK ins outs) : Nat) : Int) != 0)
  · skip
    have hb16f : (((txK ins outs) : Nat) : Int) = 0 := bne_eq_false_iff_eq.1 hb16
    have hK0 : txK ins outs = 0 := by omega
    refine G.no rfl ?_
    refine G.skipK hK8 (fun _ _ h => h) ?_
    refine G.seqK fun K17 hK18 => ?_
    refine G.region ?_
    refine GL.sem (j := 1) (H12.ldA (o := 0) (ty := 26) (m := 4) (sub := [.int .u32 (v : Int), .slice A ins.length ca, .slice B outs.length cb, .int .u32 (lt : Int)]) 0 rfl (by kernel_rfl) rfl rfl) [1, 11] [(1, pt p3 0), (11, .agg #[.int .u32 (v : Int), .slice A ins.length ca, .slice B outs.length cb, .int .u32 (lt : Int)])] (by kernel_rfl) (by kernel_rfl) rfl ?_
    refine GL.call (j := 2) (write_calls v ins A ca outs B cb lt w11 hv hlt (hIns.hp H12) (oks_mid hI H12) (hOuts.hp H12) (oksO_mid hO H12) hni hno hK0) (by kernel_rfl) rfl (fun e_ w22 hR => ?_)
    obtain ⟨A19, c20, c21, rfl, H24⟩ := hR
    have H23 : Hp w [] [.blk p3 [.int .u32 (v : Int), .slice A ins.length ca, .slice B outs.length cb, .int .u32 (lt : Int)] 26, .row A19 c20 c21 5 1 (by8 (txB v ins outs lt))] w22 := H12.callNew H24
    have hlA19 := (H23.rowLe 1 rfl).2.1
    rw [by8_length, Nat.mul_one] at hlA19
    refine ⟨_, rfl, [1, 12], [(1, pt p3 0), (12, .slice A19 c20 c21)], by kernel_rfl, ?_⟩
    refine GL.run (j := 3) 1 [1, 5] [(1, pt p3 0), (5, .slice A19 c20 c21)] (by kernel_rfl) rfl ?_
    refine GL.k rfl hK18 (fun _ _ h => h) ?_
    refine G.seqK fun K25 hK26 => ?_
    refine G.seqK fun K27 hK28 => ?_
    refine G.region ?_
    refine GL.run (j := 4) 4 [1, 5, 16] [(1, pt p3 0), (5, .slice A19 c20 c21), (16, .bool (decide (4096 < (c20 : Int))))] (by kernel_rfl) rfl ?_
    cases hb29 : (decide (4096 < (c20 : Int)))
    · skip
      have hb29f := of_decide_eq_false hb29
      refine GL.run (j := 8) 4 [1, 5, 20] [(1, pt p3 0), (5, .slice A19 c20 c21), (20, .bool ((c20 : Int) == 64))] (by kernel_rfl) rfl ?_
      refine GL.k rfl hK28 (fun _ _ h => h) ?_
      cases hb30 : ((c20 : Int) == 64)
      · skip
        have hb30f := ne_of_beq_false hb30
        refine G.no rfl ?_
        refine G.skipK hK26 (fun _ _ h => h) ?_
        refine G.seqK fun K31 hK32 => ?_
        refine G.seqK fun K33 hK34 => ?_
        refine G.region ?_
        refine GL.run (j := 1) 1 [5, 21] [(5, .slice A19 c20 c21), (21, pt p3 2)] (by kernel_rfl) rfl ?_
        refine GL.sem (j := 2) (H23.ld (o := 2) (ty := 24) (v := .slice B outs.length cb) 0 rfl (by kernel_rfl) rfl) [5, 22] [(5, .slice A19 c20 c21), (22, .slice B outs.length cb)] (by kernel_rfl) (by kernel_rfl) rfl ?_
        refine GL.call (j := 3) (ContainsO_calls outs B cb w22 (hOuts.hp H23) (oksO_mid hO H23) hno) (by kernel_rfl) rfl (fun e_ w35 hR => ?_)
        obtain ⟨rfl, H37⟩ := hR
        have H36 : Hp w [] [.blk p3 [.int .u32 (v : Int), .slice A ins.length ca, .slice B outs.length cb, .int .u32 (lt : Int)] 26, .row A19 c20 c21 5 1 (by8 (txB v ins outs lt))] w35 := H23.callNil H37
        refine ⟨_, rfl, [5, 23], [(5, .slice A19 c20 c21), (23, .bool (decide (∃ x ∈ outs, 4611686018427387904 < x.pv)))], by kernel_rfl, ?_⟩
        refine GL.k rfl hK34 (fun _ _ h => h) ?_
        cases hb38 : (decide (∃ x ∈ outs, 4611686018427387904 < x.pv))
        · skip
          have hb38f := of_decide_eq_false hb38
          have hex : ¬ (∃ x ∈ outs, 4611686018427387904 < x.pv) := of_decide_eq_false hb38
          refine G.no rfl ?_
          refine G.skipK hK32 (fun _ _ h => h) ?_
          refine G.seqK fun K39 hK40 => ?_
          refine G.region ?_
          refine GL.run (j := 3) 3 [2, 3] [(2, .slice A19 c20 c21), (3, .int .i64 0)] (by kernel_rfl) rfl ?_
          refine GL.k rfl hK40 (fun _ _ h => h) ?_
          refine G.ret ?_
          intro F_ hF_ hM_
          refine hRet _ _ (bodyPost_2 rfl (RV.tmp rfl) (RV.tmp rfl) ?_ F_ hF_ hM_)
          have e0 : txE v ins outs lt = 0 := by rw [txE, if_neg (by omega), if_neg (by omega), if_neg hex]
          have H41 : Hp w [] [.row A19 c20 c21 5 1 (by8 (txB v ins outs lt))] w35 := H36.sub (List.Sublist.cons _ (List.Sublist.cons_cons _ (List.Sublist.slnil)))
          rw [txO, e0, if_pos rfl]
          exact ⟨_, _, _, rfl, H41⟩
        · skip
          have hb38f := of_decide_eq_true hb38
          have hex : ∃ x ∈ outs, 4611686018427387904 < x.pv := of_decide_eq_true hb38
          refine G.yes rfl ?_
          refine G.seqK fun K42 hK43 => ?_
          refine G.region ?_
          refine GL.run (j := 2) 2 [2, 3] [(2, .slice none 0 0), (3, .int .i64 4)] (by kernel_rfl) rfl ?_
          refine GL.k rfl hK43 (fun _ _ h => h) ?_
          refine G.ret ?_
          intro F_ hF_ hM_
          refine hRet _ _ (bodyPost_2 rfl (RV.tmp rfl) (RV.tmp rfl) ?_ F_ hF_ hM_)
          have e0 : txE v ins outs lt = 4 := by rw [txE, if_neg (by omega), if_neg (by omega), if_pos hex]
          rw [txO, e0, if_neg (by omega)]
          exact ⟨none, 0, 0, rfl, (H36.sub (List.nil_sublist _)).rowNil 5 1⟩
      · skip
        have hb30f := eq_of_beq hb30
        refine G.yes rfl ?_
        refine G.seqK fun K44 hK45 => ?_
        refine G.region ?_
        refine GL.run (j := 2) 2 [2, 3] [(2, .slice none 0 0), (3, .int .i64 3)] (by kernel_rfl) rfl ?_
        refine GL.k rfl hK45 (fun _ _ h => h) ?_
        refine G.ret ?_
        intro F_ hF_ hM_
        refine hRet _ _ (bodyPost_2 rfl (RV.tmp rfl) (RV.tmp rfl) ?_ F_ hF_ hM_)
        have e0 : txE v ins outs lt = 3 := by rw [txE, if_neg (by omega), if_pos (by omega)]
        rw [txO, e0, if_neg (by omega)]
        exact ⟨none, 0, 0, rfl, (H23.sub (List.nil_sublist _)).rowNil 5 1⟩
    · skip
      have hb29f := of_decide_eq_true hb29
      refine GL.run (j := 8) 4 [1, 5, 20] [(1, pt p3 0), (5, .slice A19 c20 c21), (20, .bool true)] (by kernel_rfl) rfl ?_
      refine GL.k rfl hK28 (fun _ _ h => h) ?_
      refine G.yes rfl ?_
      refine G.seqK fun K46 hK47 => ?_
      refine G.region ?_
      refine GL.run (j := 2) 2 [2, 3] [(2, .slice none 0 0), (3, .int .i64 3)] (by kernel_rfl) rfl ?_
      refine GL.k rfl hK47 (fun _ _ h => h) ?_
      refine G.ret ?_
      intro F_ hF_ hM_
      refine hRet _ _ (bodyPost_2 rfl (RV.tmp rfl) (RV.tmp rfl) ?_ F_ hF_ hM_)
      have e0 : txE v ins outs lt = 3 := by rw [txE, if_neg (by omega), if_pos (by omega)]
      rw [txO, e0, if_neg (by omega)]
      exact ⟨none, 0, 0, rfl, (H23.sub (List.nil_sublist _)).rowNil 5 1⟩
  · skip
    have hb16f : (((txK ins outs) : Nat) : Int) ≠ 0 := bne_iff_ne.1 hb16
    refine G.yes rfl ?_
    refine G.seqK fun K48 hK49 => ?_
    refine G.region ?_
    refine GL.run (j := 3) 3 [2, 3] [(2, .slice none 0 0), (3, .int .i64 (((txK ins outs) : Nat) : Int))] (by kernel_rfl) rfl ?_
    refine GL.k rfl hK49 (fun _ _ h => h) ?_
    refine G.ret ?_
    intro F_ hF_ hM_
    refine hRet _ _ (bodyPost_2 rfl (RV.tmp rfl) (RV.tmp rfl) ?_ F_ hF_ hM_)
    have e0 : txE v ins outs lt = txK ins outs := if_pos (by omega)
    rw [txO, e0, if_neg (by omega)]
    exact ⟨none, 0, 0, rfl, (H12.sub (List.nil_sublist _)).rowNil 5 1⟩
end Go.Proofs.Ytcedmbdahbdmaaa
