/- Part 5 of what commandParses_proved stands on. -/
import Derived.Test.YtkfhcogdpmndkaaZl4
set_option linter.unusedVariables false
namespace Go.Proofs.Ytkfhcogdpmndkaa
open Go.RowKit
def Mv (o : UInt8) (k n a a' : Nat) : Prop := (bitP o k ∧ a' = a + n) ∨ (¬ bitP o k ∧ a' = a)
def FL (o : UInt8) (k n : Nat) (X : List UInt8) : Prop := (bitP o k → X.length = n) ∧ (¬ bitP o k → X = [])
def Prt (xs : List UInt8) (o : UInt8) (X0 X1 X2 X3 X4 X5 X6 : List UInt8) : Prop :=
  xs = o :: (X0 ++ (X1 ++ (X2 ++ (X3 ++ (X4 ++ (X5 ++ X6)))))) ∧ fm o.toNat ≠ 0 ∧ FL o 0 1 X0 ∧ FL o 1 1 X1 ∧ FL o 2 8 X2 ∧ FL o 3 8 X3 ∧ FL o 4 20 X4 ∧ (FL o 5 1 X5 ∧ getB X5 ≤ 1) ∧ (bitP o 6 → ∃ b : List UInt8, X6 = cnt b.length ++ b ∧ b.length ≤ 8192) ∧ (¬ bitP o 6 → X6 = [])
theorem fl_fld {o : UInt8} {k n : Nat} {x : List UInt8} (h : x.length = n) : FL o k n (fld o.toNat k x) := by
  unfold fld
  exact ⟨fun hb => by rw [if_pos hb]; exact h, fun hb => by rw [if_neg hb]⟩
theorem prt_of {xs : List UInt8} {o w t : UInt8} {am id : Nat} {ad : Nat → UInt8} {ag : Bool} {bd : List UInt8} (he : cmdE o w t am id ad ag bd = 0) (hx : xs = cmdB o w t am id ad ag bd) :
    ∃ X0 X1 X2 X3 X4 X5 X6, Prt xs o X0 X1 X2 X3 X4 X5 X6 := by
  unfold cmdE at he
  have hc : ¬ (fm o.toNat = 0 ∨ lacks (cmdM w t am id ad ag bd) (fm o.toNat) ≠ 0) := fun hc => by rw [if_pos hc] at he; cases he
  rw [if_neg hc] at he
  have hl : ¬ 8192 < bd.length := fun hc => by rw [if_pos hc] at he; cases he
  refine ⟨fld o.toNat 0 (putB w.toNat 1), fld o.toNat 1 (putB t.toNat 1), fld o.toNat 2 (putB am 8), fld o.toNat 3 (putB id 8), fld o.toNat 4 ((List.range 20).map ad), fld o.toNat 5 (putB (if ag = true then 1 else 0) 1), fld o.toNat 6 (cnt bd.length ++ bd), by rw [hx, cmdB, put1 o]; rfl, fun h => hc (.inl h), fl_fld (putB_length 1 _), fl_fld (putB_length 1 _), fl_fld (putB_length 8 _), fl_fld (putB_length 8 _), fl_fld (by simp), ⟨fl_fld (putB_length 1 _), ?_⟩, fun hb => ⟨bd, by unfold fld; rw [if_pos hb], by omega⟩, fun hb => by unfold fld; rw [if_neg hb]⟩
  unfold fld
  split
  · rw [getB_put]
    cases ag <;> decide
  · decide
theorem mv_same {o : UInt8} {k n a a' b b' : Nat} (h1 : Mv o k n a a') (h2 : Mv o k n b b') (h : b = 1 + a) : b' = 1 + a' := by
  rcases h1 with ⟨x, h1⟩ | ⟨x, h1⟩ <;> rcases h2 with ⟨y, h2⟩ | ⟨y, h2⟩
  · omega
  · exact absurd x y
  · exact absurd y x
  · omega
theorem mv_yes {o : UInt8} {k n a a' : Nat} (h : Mv o k n a a') (hb : bitP o k) : a' = a + n := by
  rcases h with ⟨_, h⟩ | ⟨x, _⟩
  · exact h
  · exact absurd hb x
theorem mv_up {o : UInt8} {k n a a' : Nat} (h : Mv o k n a a') : a ≤ a' ∧ a' ≤ a + n := by
  rcases h with ⟨_, h⟩ | ⟨_, h⟩ <;> omega
theorem mv_len {o : UInt8} {k n a a' : Nat} {X : List UInt8} (h : Mv o k n a a') (hX : FL o k n X) : a' = a + X.length := by
  rcases h with ⟨hb, h⟩ | ⟨hb, h⟩
  · rw [h, hX.1 hb]
  · rw [h, hX.2 hb]
    rfl
theorem mv_on {o : UInt8} {k n a a' : Nat} {X T xs : List UInt8} (h : Mv o k n a a') (hX : FL o k n X) (hx : xs.drop a = X ++ T) : xs.drop a' = T := by
  rw [mv_len h hX, ← List.drop_drop, hx]
  exact List.drop_left' rfl
theorem at_drop {xs : List UInt8} (a i : Nat) : xs.getD (a + i) 0 = (xs.drop a).getD i 0 := by
  rw [List.getD_eq_getElem?_getD, List.getD_eq_getElem?_getD, List.getElem?_drop]
theorem one_at {xs X T : List UInt8} {a : Nat} (hx : xs.drop a = X ++ T) (h : X.length = 1) : X = [xs.getD a 0] := by
  obtain ⟨y, rfl⟩ : ∃ y, X = [y] := by
    cases X with
    | nil => simp at h
    | cons y r => exact ⟨y, by rw [List.length_cons] at h; rw [List.eq_nil_of_length_eq_zero (show r.length = 0 by omega)]⟩
  have := at_drop (xs := xs) a 0
  rw [Nat.add_zero, hx] at this
  rw [this]
  rfl
theorem cut_at {xs X T : List UInt8} {a n : Nat} (hx : xs.drop a = X ++ T) (h : X.length = n) : (xs.take (a + n)).drop a = X := by
  rw [List.drop_take, Nat.add_sub_cancel_left, hx]
  exact List.take_left' h
structure RP (xs : List UInt8) (o wh t : UInt8) (am id : Nat) (ad : Nat → UInt8) (ag : Bool) (a0 a1 a2 a3 a4 a5 a6 : Nat) : Prop where
  ho : o = xs.getD 0 0
  h0 : a0 = 1
  m0 : Mv o 0 1 a0 a1 ∧ (bitP o 0 → wh = xs.getD a0 0) ∧ (¬ bitP o 0 → wh = 0)
  m1 : Mv o 1 1 a1 a2 ∧ (bitP o 1 → t = xs.getD a1 0) ∧ (¬ bitP o 1 → t = 0)
  m2 : Mv o 2 8 a2 a3 ∧ (bitP o 2 → am = getB ((xs.take (a2 + 8)).drop a2)) ∧ (¬ bitP o 2 → am = 0)
  m3 : Mv o 3 8 a3 a4 ∧ (bitP o 3 → id = getB ((xs.take (a3 + 8)).drop a3)) ∧ (¬ bitP o 3 → id = 0)
  m4 : Mv o 4 20 a4 a5 ∧ (bitP o 4 → ad = fun i => xs.getD (a4 + i) 0) ∧ (¬ bitP o 4 → ad = fun _ => 0)
  m5 : Mv o 5 1 a5 a6 ∧ (bitP o 5 → ag = (((xs.getD a5 0).toNat : Int) == 1)) ∧ (¬ bitP o 5 → ag = false)
theorem RP.drops {xs : List UInt8} {o wh t : UInt8} {am id : Nat} {ad : Nat → UInt8} {ag : Bool} {a0 a1 a2 a3 a4 a5 a6 : Nat} (h : RP xs o wh t am id ad ag a0 a1 a2 a3 a4 a5 a6) {X0 X1 X2 X3 X4 X5 X6 : List UInt8} (p : Prt xs o X0 X1 X2 X3 X4 X5 X6) :
    xs.drop a0 = X0 ++ (X1 ++ (X2 ++ (X3 ++ (X4 ++ (X5 ++ X6))))) ∧ xs.drop a1 = X1 ++ (X2 ++ (X3 ++ (X4 ++ (X5 ++ X6)))) ∧ xs.drop a2 = X2 ++ (X3 ++ (X4 ++ (X5 ++ X6))) ∧ xs.drop a3 = X3 ++ (X4 ++ (X5 ++ X6)) ∧ xs.drop a4 = X4 ++ (X5 ++ X6) ∧ xs.drop a5 = X5 ++ X6 ∧ xs.drop a6 = X6 := by
  obtain ⟨hx, _, p0, p1, p2, p3, p4, p5, _, _⟩ := p
  have d0 : xs.drop a0 = X0 ++ (X1 ++ (X2 ++ (X3 ++ (X4 ++ (X5 ++ X6))))) := by rw [h.h0, hx]; rfl
  have d1 := mv_on h.m0.1 p0 d0
  have d2 := mv_on h.m1.1 p1 d1
  have d3 := mv_on h.m2.1 p2 d2
  have d4 := mv_on h.m3.1 p3 d3
  have d5 := mv_on h.m4.1 p4 d4
  exact ⟨d0, d1, d2, d3, d4, d5, mv_on h.m5.1 p5.1 d5⟩
theorem RP.same {xs : List UInt8} {o wh t : UInt8} {am id : Nat} {ad : Nat → UInt8} {ag : Bool} {a0 a1 a2 a3 a4 a5 a6 : Nat} (h : RP xs o wh t am id ad ag a0 a1 a2 a3 a4 a5 a6) {X0 X1 X2 X3 X4 X5 X6 : List UInt8} (p : Prt xs o X0 X1 X2 X3 X4 X5 X6) {bd : List UInt8} (hb : bitP o 6 → X6 = cnt bd.length ++ bd) : cmdB o wh t am id ad ag bd = xs := by
  obtain ⟨d0, d1, d2, d3, d4, d5, d6⟩ := h.drops p
  obtain ⟨hx, _, p0, p1, p2, p3, p4, p5, _, p6⟩ := p
  have b0 : fld o.toNat 0 (putB wh.toNat 1) = X0 := fld_of p0.1 p0.2 fun b => by rw [put1, h.m0.2.1 b]; exact (one_at d0 (p0.1 b)).symm
  have b1 : fld o.toNat 1 (putB t.toNat 1) = X1 := fld_of p1.1 p1.2 fun b => by rw [put1, h.m1.2.1 b]; exact (one_at d1 (p1.1 b)).symm
  have b2 : fld o.toNat 2 (putB am 8) = X2 := fld_of p2.1 p2.2 fun b => by rw [h.m2.2.1 b, cut_at d2 (p2.1 b)]; exact put_of (p2.1 b)
  have b3 : fld o.toNat 3 (putB id 8) = X3 := fld_of p3.1 p3.2 fun b => by rw [h.m3.2.1 b, cut_at d3 (p3.1 b)]; exact put_of (p3.1 b)
  have b4 : fld o.toNat 4 ((List.range 20).map ad) = X4 := fld_of p4.1 p4.2 fun b => by
    have hl := p4.1 b
    rw [h.m4.2.1 b]
    refine List.ext_getElem? fun i => ?_
    by_cases hi : i < 20
    · rw [List.getElem?_map, List.getElem?_range hi, Option.map_some, at_drop, d4, List.getD_eq_getElem?_getD, List.getElem?_append_left (by omega), List.getElem?_eq_getElem (by omega)]
      rfl
    · rw [List.getElem?_eq_none (by simp; omega), List.getElem?_eq_none (by omega)]
  have b5 : fld o.toNat 5 (putB (if ag = true then 1 else 0) 1) = X5 := fld_of p5.1.1 p5.1.2 fun b => by
    have e := one_at d5 (p5.1.1 b)
    have g : (xs.getD a5 0).toNat ≤ 1 := by
      have := p5.2
      rw [e] at this
      simpa [getB] using this
    rw [e, ← put1, h.m5.2.1 b]
    by_cases hg : (xs.getD a5 0).toNat = 1
    · rw [hg]
      rfl
    · rw [show (xs.getD a5 0).toNat = 0 by omega]
      rfl
  have b6 : fld o.toNat 6 (cnt bd.length ++ bd) = X6 := by
    unfold fld
    by_cases b : bitP o 6
    · rw [if_pos b, hb b]
    · rw [if_neg b, p6 b]
  unfold cmdB
  rw [b0, b1, b2, b3, b4, b5, b6, put1 o, hx]
  rfl
theorem RP.right {xs : List UInt8} {o wh t : UInt8} {am id : Nat} {ad : Nat → UInt8} {ag : Bool} {a0 a1 a2 a3 a4 a5 a6 : Nat} (h : RP xs o wh t am id ad ag a0 a1 a2 a3 a4 a5 a6) (hf : fm o.toNat ≠ 0) {bd : List UInt8} (h6 : ¬ bitP o 6 → bd = []) (hl : bd.length ≤ 8192) : cmdE o wh t am id ad ag bd = 0 := by
  unfold cmdE
  rw [if_neg, if_neg (by omega)]
  rintro (hc | hc)
  · exact hf hc
  · apply hc
    obtain ⟨e0, e1, e2, e3, e4, e5, e6, _⟩ := has_bits o.toNat
    rw [lacks_iff, e0, e1, e2, e3, e4, e5, e6]
    have key : ∀ {k : Nat} {Q : Prop}, (¬ bitP o k → Q) → (Q ∨ fm o.toNat / 2 ^ k % 2 = 1) := by
      intro k Q a
      by_cases hb : bitP o k
      · exact .inr hb
      · exact .inl (a hb)
    refine ⟨⟨⟨⟨⟨⟨?_, ?_⟩, ?_⟩, ?_⟩, ?_⟩, ?_⟩, ?_⟩
    · exact key fun b => by rw [h.m0.2.2 b]; rfl
    · exact key fun b => by rw [h.m1.2.2 b]; rfl
    · exact key fun b => h.m2.2.2 b
    · exact key fun b => h.m3.2.2 b
    · exact key fun b => by rw [h.m4.2.2 b]; rfl
    · exact key fun b => h.m5.2.2 b
    · exact key h6
theorem prt_len {xs : List UInt8} {o : UInt8} {X0 X1 X2 X3 X4 X5 X6 : List UInt8} (p : Prt xs o X0 X1 X2 X3 X4 X5 X6) {n1 n2 n3 n4 n5 n6 : Nat} (m0 : Mv o 0 1 0 n1) (m1 : Mv o 1 1 n1 n2) (m2 : Mv o 2 8 n2 n3) (m3 : Mv o 3 8 n3 n4) (m4 : Mv o 4 20 n4 n5) (m5 : Mv o 5 1 n5 n6) : 1 + n6 ≤ xs.length := by
  obtain ⟨hx, _, p0, p1, p2, p3, p4, p5, _, _⟩ := p
  have := mv_len m0 p0
  have := mv_len m1 p1
  have := mv_len m2 p2
  have := mv_len m3 p3
  have := mv_len m4 p4
  have := mv_len m5 p5.1
  have hl := congrArg List.length hx
  simp only [List.length_cons, List.length_append] at hl
  omega
theorem cn_in {bs : List UInt8} (h : cnOK bs = true) : cnN bs + 1 ≤ bs.length ∧ cnN bs + 1 ≤ 9 := by
  unfold cnOK at h
  simp only [Bool.and_eq_true, decide_eq_true_eq] at h
  have := cntSz_le (cnX bs)
  omega
theorem RP.body {xs : List UInt8} {o wh t : UInt8} {am id : Nat} {ad : Nat → UInt8} {ag : Bool} {a0 a1 a2 a3 a4 a5 a6 : Nat} (h : RP xs o wh t am id ad ag a0 a1 a2 a3 a4 a5 a6) {X0 X1 X2 X3 X4 X5 X6 : List UInt8} (p : Prt xs o X0 X1 X2 X3 X4 X5 X6) (hb : bitP o 6) :
    cnOK (xs.drop a6) = true ∧ cnX (xs.drop a6) ≤ 8192 ∧ xs.length = a6 + (cnN (xs.drop a6) + 1) + cnX (xs.drop a6) ∧ X6 = cnt (xs.drop (a6 + (cnN (xs.drop a6) + 1))).length ++ xs.drop (a6 + (cnN (xs.drop a6) + 1)) := by
  obtain ⟨_, _, _, _, _, _, d6⟩ := h.drops p
  obtain ⟨b, e, hl⟩ := p.2.2.2.2.2.2.2.2.1 hb
  obtain ⟨c1, c2, c3, c4⟩ := cn_cnt (show b.length < 18446744073709551616 by omega) b
  have hd := congrArg List.length (d6.trans e)
  rw [List.length_drop, List.length_append, cnt_length] at hd
  have hz := cntSz_le b.length
  rw [← List.drop_drop, d6, e, c1, c2, c3]
  exact ⟨rfl, hl, by omega, rfl⟩
def adP (xs : List UInt8) (a j i : Nat) : UInt8 := if i < j then xs.getD (a + i) 0 else 0
theorem get8_lt (xs : List UInt8) {a : Nat} : getB ((xs.take (a + 8)).drop a) < 18446744073709551616 := Nat.lt_of_lt_of_le (getB_lt _) (Nat.le_trans (Nat.pow_le_pow_right (by decide) (show ((xs.take (a + 8)).drop a).length ≤ 8 by simp; omega)) (by decide))
theorem ad_set {x0 x1 x2 x3 x4 y z : Value} {xs : List UInt8} {a j : Nat} (h : j < 20) : ([x0, x1, x2, x3, x4, .int .u8 ((adP xs a j 0).toNat : Int), .int .u8 ((adP xs a j 1).toNat : Int), .int .u8 ((adP xs a j 2).toNat : Int), .int .u8 ((adP xs a j 3).toNat : Int), .int .u8 ((adP xs a j 4).toNat : Int), .int .u8 ((adP xs a j 5).toNat : Int), .int .u8 ((adP xs a j 6).toNat : Int), .int .u8 ((adP xs a j 7).toNat : Int), .int .u8 ((adP xs a j 8).toNat : Int), .int .u8 ((adP xs a j 9).toNat : Int), .int .u8 ((adP xs a j 10).toNat : Int), .int .u8 ((adP xs a j 11).toNat : Int), .int .u8 ((adP xs a j 12).toNat : Int), .int .u8 ((adP xs a j 13).toNat : Int), .int .u8 ((adP xs a j 14).toNat : Int), .int .u8 ((adP xs a j 15).toNat : Int), .int .u8 ((adP xs a j 16).toNat : Int), .int .u8 ((adP xs a j 17).toNat : Int), .int .u8 ((adP xs a j 18).toNat : Int), .int .u8 ((adP xs a j 19).toNat : Int), y, z] : List Value).set (5 + j * 1) (.int .u8 ((xs.getD (a + j) 0).toNat : Int)) = [x0, x1, x2, x3, x4, .int .u8 ((adP xs a (j + 1) 0).toNat : Int), .int .u8 ((adP xs a (j + 1) 1).toNat : Int), .int .u8 ((adP xs a (j + 1) 2).toNat : Int), .int .u8 ((adP xs a (j + 1) 3).toNat : Int), .int .u8 ((adP xs a (j + 1) 4).toNat : Int), .int .u8 ((adP xs a (j + 1) 5).toNat : Int), .int .u8 ((adP xs a (j + 1) 6).toNat : Int), .int .u8 ((adP xs a (j + 1) 7).toNat : Int), .int .u8 ((adP xs a (j + 1) 8).toNat : Int), .int .u8 ((adP xs a (j + 1) 9).toNat : Int), .int .u8 ((adP xs a (j + 1) 10).toNat : Int), .int .u8 ((adP xs a (j + 1) 11).toNat : Int), .int .u8 ((adP xs a (j + 1) 12).toNat : Int), .int .u8 ((adP xs a (j + 1) 13).toNat : Int), .int .u8 ((adP xs a (j + 1) 14).toNat : Int), .int .u8 ((adP xs a (j + 1) 15).toNat : Int), .int .u8 ((adP xs a (j + 1) 16).toNat : Int), .int .u8 ((adP xs a (j + 1) 17).toNat : Int), .int .u8 ((adP xs a (j + 1) 18).toNat : Int), .int .u8 ((adP xs a (j + 1) 19).toNat : Int), y, z] := by
  have key : ∀ n : Fin 20, ([x0, x1, x2, x3, x4, .int .u8 ((adP xs a n.val 0).toNat : Int), .int .u8 ((adP xs a n.val 1).toNat : Int), .int .u8 ((adP xs a n.val 2).toNat : Int), .int .u8 ((adP xs a n.val 3).toNat : Int), .int .u8 ((adP xs a n.val 4).toNat : Int), .int .u8 ((adP xs a n.val 5).toNat : Int), .int .u8 ((adP xs a n.val 6).toNat : Int), .int .u8 ((adP xs a n.val 7).toNat : Int), .int .u8 ((adP xs a n.val 8).toNat : Int), .int .u8 ((adP xs a n.val 9).toNat : Int), .int .u8 ((adP xs a n.val 10).toNat : Int), .int .u8 ((adP xs a n.val 11).toNat : Int), .int .u8 ((adP xs a n.val 12).toNat : Int), .int .u8 ((adP xs a n.val 13).toNat : Int), .int .u8 ((adP xs a n.val 14).toNat : Int), .int .u8 ((adP xs a n.val 15).toNat : Int), .int .u8 ((adP xs a n.val 16).toNat : Int), .int .u8 ((adP xs a n.val 17).toNat : Int), .int .u8 ((adP xs a n.val 18).toNat : Int), .int .u8 ((adP xs a n.val 19).toNat : Int), y, z] : List Value).set (5 + n.val * 1) (.int .u8 ((xs.getD (a + n.val) 0).toNat : Int)) = [x0, x1, x2, x3, x4, .int .u8 ((adP xs a (n.val + 1) 0).toNat : Int), .int .u8 ((adP xs a (n.val + 1) 1).toNat : Int), .int .u8 ((adP xs a (n.val + 1) 2).toNat : Int), .int .u8 ((adP xs a (n.val + 1) 3).toNat : Int), .int .u8 ((adP xs a (n.val + 1) 4).toNat : Int), .int .u8 ((adP xs a (n.val + 1) 5).toNat : Int), .int .u8 ((adP xs a (n.val + 1) 6).toNat : Int), .int .u8 ((adP xs a (n.val + 1) 7).toNat : Int), .int .u8 ((adP xs a (n.val + 1) 8).toNat : Int), .int .u8 ((adP xs a (n.val + 1) 9).toNat : Int), .int .u8 ((adP xs a (n.val + 1) 10).toNat : Int), .int .u8 ((adP xs a (n.val + 1) 11).toNat : Int), .int .u8 ((adP xs a (n.val + 1) 12).toNat : Int), .int .u8 ((adP xs a (n.val + 1) 13).toNat : Int), .int .u8 ((adP xs a (n.val + 1) 14).toNat : Int), .int .u8 ((adP xs a (n.val + 1) 15).toNat : Int), .int .u8 ((adP xs a (n.val + 1) 16).toNat : Int), .int .u8 ((adP xs a (n.val + 1) 17).toNat : Int), .int .u8 ((adP xs a (n.val + 1) 18).toNat : Int), .int .u8 ((adP xs a (n.val + 1) 19).toNat : Int), y, z] := by
    intro ⟨n, hn⟩
    rcases (by omega : n = 0 ∨ n = 1 ∨ n = 2 ∨ n = 3 ∨ n = 4 ∨ n = 5 ∨ n = 6 ∨ n = 7 ∨ n = 8 ∨ n = 9 ∨ n = 10 ∨ n = 11 ∨ n = 12 ∨ n = 13 ∨ n = 14 ∨ n = 15 ∨ n = 16 ∨ n = 17 ∨ n = 18 ∨ n = 19) with rfl | rfl | rfl | rfl | rfl | rfl | rfl | rfl | rfl | rfl | rfl | rfl | rfl | rfl | rfl | rfl | rfl | rfl | rfl | rfl <;> rfl
  exact key ⟨j, h⟩
set_option maxHeartbeats 4000000 in
theorem RParse27_calls (xs : List UInt8) (A : Option Addr) (n c : Nat) (w : World) (hx : RdS w A (by8 xs)) (hn : n = xs.length) (hc : xs.length ≤ c) (hb : xs.length ≤ 9000) : Calls Try.prog 16 #[.slice A n c] w fun e w' => ∃ (o wh t : UInt8) (am id : Nat) (ad : Nat → UInt8) (ag : Bool) (bd : List UInt8) (ok : Bool), e = .returned (.tuple #[.agg #[.int .u8 (o.toNat : Int), .int .u8 (wh.toNat : Int), .int .u8 (t.toNat : Int), .int .u64 (am : Int), .int .u64 (id : Int), .int .u8 ((ad 0).toNat : Int), .int .u8 ((ad 1).toNat : Int), .int .u8 ((ad 2).toNat : Int), .int .u8 ((ad 3).toNat : Int), .int .u8 ((ad 4).toNat : Int), .int .u8 ((ad 5).toNat : Int), .int .u8 ((ad 6).toNat : Int), .int .u8 ((ad 7).toNat : Int), .int .u8 ((ad 8).toNat : Int), .int .u8 ((ad 9).toNat : Int), .int .u8 ((ad 10).toNat : Int), .int .u8 ((ad 11).toNat : Int), .int .u8 ((ad 12).toNat : Int), .int .u8 ((ad 13).toNat : Int), .int .u8 ((ad 14).toNat : Int), .int .u8 ((ad 15).toNat : Int), .int .u8 ((ad 16).toNat : Int), .int .u8 ((ad 17).toNat : Int), .int .u8 ((ad 18).toNat : Int), .int .u8 ((ad 19).toNat : Int), .bool ag, .string (strOf bd)], .bool ok]) ∧ Hp w [] [] w' ∧ bd.length ≤ 8192 ∧ am < 18446744073709551616 ∧ id < 18446744073709551616 ∧ (ok = true → xs = cmdB o wh t am id ad ag bd ∧ cmdE o wh t am id ad ag bd = 0) ∧ (ok = false → ∀ (o' w' t' : UInt8) (am' id' : Nat) (ad' : Nat → UInt8) (ag' : Bool) (bd' : List UInt8), cmdE o' w' t' am' id' ad' ag' bd' = 0 → xs ≠ cmdB o' w' t' am' id' ad' ag' bd') := by
  subst hn
  refine calls_G (args := [.slice A xs.length c]) Try.func16 rfl Try.ntmps16 rfl ?_
  intro Q0 hRet hNor hPan
  have H := Hp.start w
  have H : Hp w [] [] w := H
  refine G.seqK fun K1 hK2 => ?_
  refine G.region ?_
  obtain ⟨p3, w4, r5, H6⟩ := H.alloc (P := Try.prog) 34 [.int .u8 0, .int .u8 0, .int .u8 0, .int .u64 0, .int .u64 0, .int .u8 0, .int .u8 0, .int .u8 0, .int .u8 0, .int .u8 0, .int .u8 0, .int .u8 0, .int .u8 0, .int .u8 0, .int .u8 0, .int .u8 0, .int .u8 0, .int .u8 0, .int .u8 0, .int .u8 0, .int .u8 0, .int .u8 0, .int .u8 0, .int .u8 0, .int .u8 0, .bool false, .string ⟨#[]⟩] (by kernel_rfl)
  have H6 : Hp w [] [.blk p3 [.int .u8 0, .int .u8 0, .int .u8 0, .int .u64 0, .int .u64 0, .int .u8 0, .int .u8 0, .int .u8 0, .int .u8 0, .int .u8 0, .int .u8 0, .int .u8 0, .int .u8 0, .int .u8 0, .int .u8 0, .int .u8 0, .int .u8 0, .int .u8 0, .int .u8 0, .int .u8 0, .int .u8 0, .int .u8 0, .int .u8 0, .int .u8 0, .int .u8 0, .bool false, .string ⟨#[]⟩] 34] w4 := H6
  refine GL.sem (j := 1) (r5) [0, 2] [(0, .slice A xs.length c), (2, pt p3 0)] (by kernel_rfl) (by kernel_rfl) rfl ?_
  refine GL.run (j := 2) 1 [0, 2] [(0, .slice A xs.length c), (2, pt p3 0)] (by kernel_rfl) rfl ?_
  refine GL.k rfl hK2 (fun _ _ h => h) ?_
  refine G.seqK fun K7 hK8 => ?_
  refine G.region ?_
  refine GL.run (j := 1) 1 [0, 2, 13] [(0, .slice A xs.length c), (2, pt p3 0), (13, .agg #[.int .u8 0, .int .u8 0, .int .u8 0, .int .u64 0, .int .u64 0, .int .u8 0, .int .u8 0, .int .u8 0, .int .u8 0, .int .u8 0, .int .u8 0, .int .u8 0, .int .u8 0, .int .u8 0, .int .u8 0, .int .u8 0, .int .u8 0, .int .u8 0, .int .u8 0, .int .u8 0, .int .u8 0, .int .u8 0, .int .u8 0, .int .u8 0, .int .u8 0, .bool false, .string ⟨#[]⟩])] (by kernel_rfl) rfl ?_
  obtain ⟨p9, w10, r11, H12⟩ := H6.alloc (P := Try.prog) 34 [.int .u8 0, .int .u8 0, .int .u8 0, .int .u64 0, .int .u64 0, .int .u8 0, .int .u8 0, .int .u8 0, .int .u8 0, .int .u8 0, .int .u8 0, .int .u8 0, .int .u8 0, .int .u8 0, .int .u8 0, .int .u8 0, .int .u8 0, .int .u8 0, .int .u8 0, .int .u8 0, .int .u8 0, .int .u8 0, .int .u8 0, .int .u8 0, .int .u8 0, .bool false, .string ⟨#[]⟩] (by kernel_rfl)
  have H12 : Hp w [] [.blk p3 [.int .u8 0, .int .u8 0, .int .u8 0, .int .u64 0, .int .u64 0, .int .u8 0, .int .u8 0, .int .u8 0, .int .u8 0, .int .u8 0, .int .u8 0, .int .u8 0, .int .u8 0, .int .u8 0, .int .u8 0, .int .u8 0, .int .u8 0, .int .u8 0, .int .u8 0, .int .u8 0, .int .u8 0, .int .u8 0, .int .u8 0, .int .u8 0, .int .u8 0, .bool false, .string ⟨#[]⟩] 34, .blk p9 [.int .u8 0, .int .u8 0, .int .u8 0, .int .u64 0, .int .u64 0, .int .u8 0, .int .u8 0, .int .u8 0, .int .u8 0, .int .u8 0, .int .u8 0, .int .u8 0, .int .u8 0, .int .u8 0, .int .u8 0, .int .u8 0, .int .u8 0, .int .u8 0, .int .u8 0, .int .u8 0, .int .u8 0, .int .u8 0, .int .u8 0, .int .u8 0, .int .u8 0, .bool false, .string ⟨#[]⟩] 34] w10 := H12
  refine GL.sem (j := 2) (r11) [0, 2, 4, 13] [(0, .slice A xs.length c), (2, pt p3 0), (4, pt p9 0), (13, .agg #[.int .u8 0, .int .u8 0, .int .u8 0, .int .u64 0, .int .u64 0, .int .u8 0, .int .u8 0, .int .u8 0, .int .u8 0, .int .u8 0, .int .u8 0, .int .u8 0, .int .u8 0, .int .u8 0, .int .u8 0, .int .u8 0, .int .u8 0, .int .u8 0, .int .u8 0, .int .u8 0, .int .u8 0, .int .u8 0, .int .u8 0, .int .u8 0, .int .u8 0, .bool false, .string ⟨#[]⟩])] (by kernel_rfl) (by kernel_rfl) rfl ?_
  obtain ⟨w13, r14, H15⟩ := H12.stA (P := Try.prog) (o := 0) (vs := [.int .u8 0, .int .u8 0, .int .u8 0, .int .u64 0, .int .u64 0, .int .u8 0, .int .u8 0, .int .u8 0, .int .u8 0, .int .u8 0, .int .u8 0, .int .u8 0, .int .u8 0, .int .u8 0, .int .u8 0, .int .u8 0, .int .u8 0, .int .u8 0, .int .u8 0, .int .u8 0, .int .u8 0, .int .u8 0, .int .u8 0, .int .u8 0, .int .u8 0, .bool false, .string ⟨#[]⟩]) (ty := 34) (m := 27) 1 rfl (by kernel_rfl) rfl (by simp) (by simp [Value.oneCell'])
  have H15 : Hp w [] [.blk p3 [.int .u8 0, .int .u8 0, .int .u8 0, .int .u64 0, .int .u64 0, .int .u8 0, .int .u8 0, .int .u8 0, .int .u8 0, .int .u8 0, .int .u8 0, .int .u8 0, .int .u8 0, .int .u8 0, .int .u8 0, .int .u8 0, .int .u8 0, .int .u8 0, .int .u8 0, .int .u8 0, .int .u8 0, .int .u8 0, .int .u8 0, .int .u8 0, .int .u8 0, .bool false, .string ⟨#[]⟩] 34, .blk p9 [.int .u8 0, .int .u8 0, .int .u8 0, .int .u64 0, .int .u64 0, .int .u8 0, .int .u8 0, .int .u8 0, .int .u8 0, .int .u8 0, .int .u8 0, .int .u8 0, .int .u8 0, .int .u8 0, .int .u8 0, .int .u8 0, .int .u8 0, .int .u8 0, .int .u8 0, .int .u8 0, .int .u8 0, .int .u8 0, .int .u8 0, .int .u8 0, .int .u8 0, .bool false, .string ⟨#[]⟩] 34] w13 := H15
  refine GL.semU (j := 3) r14 [0, 2, 4] [(0, .slice A xs.length c), (2, pt p3 0), (4, pt p9 0)] (by kernel_rfl) rfl rfl rfl ?_
  refine GL.k rfl hK8 (fun _ _ h => h) ?_
  refine G.seqK fun K16 hK17 => ?_
  refine G.seqK fun K18 hK19 => ?_
  refine G.region ?_
  refine GL.run (j := 4) 4 [0, 2, 4, 17] [(0, .slice A xs.length c), (2, pt p3 0), (4, pt p9 0), (17, .bool ((xs.length : Int) == 0))] (by kernel_rfl) rfl ?_
  cases hb20 : ((xs.length : Int) == 0)
  · skip
    have hb20f := ne_of_beq_false hb20
    refine GL.run (j := 5) 1 [0, 2, 4, 17, 18] [(0, .slice A xs.length c), (2, pt p3 0), (4, pt p9 0), (17, .bool false), (18, .slice A xs.length c)] (by kernel_rfl) rfl ?_
    refine GL.sem (j := 6) (run_idxRd (P := Try.prog) (k := .i64) (t := 26) (A := A) (len := xs.length) (cap := c) (j := 0) (by kernel_rfl) rfl (hx.hp H15) (by rw [by8_length]) (by first | rfl | omega | exact (cnt_length _).symm | (simp only [List.length_cons, List.length_nil, List.length_drop, List.length_take, List.length_append] <;> omega))) [0, 2, 4, 17, 19] [(0, .slice A xs.length c), (2, pt p3 0), (4, pt p9 0), (17, .bool false), (19, .pointer (Option.map (fun x => Addr.add x 0) A))] (by kernel_rfl) (by kernel_rfl) rfl ?_
    obtain ⟨o, ho⟩ : ∃ o : UInt8, o = xs.getD 0 0 := ⟨_, rfl⟩
    refine GL.sem (j := 7) (run_ldRd (P := Try.prog) (ty := 5) (A := A) (j := 0) (v := .int .u8 (o.toNat : Int)) (by kernel_rfl) (hx.hp H15) (by8_at (by rw [ho]; exact getD8 (by omega)))) [0, 2, 4, 17, 20] [(0, .slice A xs.length c), (2, pt p3 0), (4, pt p9 0), (17, .bool false), (20, .int .u8 (o.toNat : Int))] (by kernel_rfl) (by kernel_rfl) rfl ?_
    refine GL.call (j := 8) (Fields27_calls o w13) (by kernel_rfl) rfl (fun e_ w21 hR => ?_)
    obtain ⟨rfl, H23⟩ := hR
    have H22 : Hp w [] [.blk p3 [.int .u8 0, .int .u8 0, .int .u8 0, .int .u64 0, .int .u64 0, .int .u8 0, .int .u8 0, .int .u8 0, .int .u8 0, .int .u8 0, .int .u8 0, .int .u8 0, .int .u8 0, .int .u8 0, .int .u8 0, .int .u8 0, .int .u8 0, .int .u8 0, .int .u8 0, .int .u8 0, .int .u8 0, .int .u8 0, .int .u8 0, .int .u8 0, .int .u8 0, .bool false, .string ⟨#[]⟩] 34, .blk p9 [.int .u8 0, .int .u8 0, .int .u8 0, .int .u64 0, .int .u64 0, .int .u8 0, .int .u8 0, .int .u8 0, .int .u8 0, .int .u8 0, .int .u8 0, .int .u8 0, .int .u8 0, .int .u8 0, .int .u8 0, .int .u8 0, .int .u8 0, .int .u8 0, .int .u8 0, .int .u8 0, .int .u8 0, .int .u8 0, .int .u8 0, .int .u8 0, .int .u8 0, .bool false, .string ⟨#[]⟩] 34] w21 := H15.callNil H23
    refine ⟨_, rfl, [0, 2, 4, 17, 21], [(0, .slice A xs.length c), (2, pt p3 0), (4, pt p9 0), (17, .bool false), (21, .string (strOf (fd o.toNat)))], by kernel_rfl, ?_⟩
    refine GL.sem (j := 9) (run_str_eql (P := Try.prog) (t := 9) (fd o.toNat) ([] : List UInt8) _) [0, 2, 4, 17, 22] [(0, .slice A xs.length c), (2, pt p3 0), (4, pt p9 0), (17, .bool false), (22, .bool ((fd o.toNat) == ([] : List UInt8)))] (by kernel_rfl) (by kernel_rfl) rfl ?_
    refine GL.run (j := 10) 1 [0, 2, 4, 23] [(0, .slice A xs.length c), (2, pt p3 0), (4, pt p9 0), (23, .bool ((fd o.toNat) == ([] : List UInt8)))] (by kernel_rfl) rfl ?_
    refine GL.k rfl hK19 (fun _ _ h => h) ?_
    cases hb24 : ((fd o.toNat) == ([] : List UInt8))
    · skip
      have hb24f := ne_of_beq_false hb24
      have hfd : fd o.toNat ≠ [] := ne_of_beq_false hb24
      have hf0 := (has_bits o.toNat).2.2.2.2.2.2.2
      have hf : fm o.toNat ≠ 0 := fun h_ => hfd (hf0.2 h_)
      refine G.no rfl ?_
      refine G.skipK hK17 (fun _ _ h => h) ?_
      refine G.seqK fun K25 hK26 => ?_
      refine G.region ?_
      refine GL.run (j := 1) 1 [0, 2, 4, 25] [(0, .slice A xs.length c), (2, pt p3 0), (4, pt p9 0), (25, .slice A xs.length c)] (by kernel_rfl) rfl ?_
      refine GL.sem (j := 2) (run_idxRd (P := Try.prog) (k := .i64) (t := 26) (A := A) (len := xs.length) (cap := c) (j := 0) (by kernel_rfl) rfl (hx.hp H22) (by rw [by8_length]) (by first | rfl | omega | exact (cnt_length _).symm | (simp only [List.length_cons, List.length_nil, List.length_drop, List.length_take, List.length_append] <;> omega))) [0, 2, 4, 26] [(0, .slice A xs.length c), (2, pt p3 0), (4, pt p9 0), (26, .pointer (Option.map (fun x => Addr.add x 0) A))] (by kernel_rfl) (by kernel_rfl) rfl ?_
      refine GL.sem (j := 3) (run_ldRd (P := Try.prog) (ty := 5) (A := A) (j := 0) (v := .int .u8 (o.toNat : Int)) (by kernel_rfl) (hx.hp H22) (by8_at (by rw [ho]; exact getD8 (by omega)))) [0, 2, 4, 27] [(0, .slice A xs.length c), (2, pt p3 0), (4, pt p9 0), (27, .int .u8 (o.toNat : Int))] (by kernel_rfl) (by kernel_rfl) rfl ?_
      refine GL.run (j := 4) 1 [0, 2, 4, 27, 28] [(0, .slice A xs.length c), (2, pt p3 0), (4, pt p9 0), (27, .int .u8 (o.toNat : Int)), (28, pt p9 0)] (by kernel_rfl) rfl ?_
      obtain ⟨w27, r28, H29⟩ := H22.st (P := Try.prog) (o := 0) (ty := 5) (v := .int .u8 (o.toNat : Int)) 1 rfl (by kernel_rfl) (by simp) rfl
      have H29 : Hp w [] [.blk p3 [.int .u8 0, .int .u8 0, .int .u8 0, .int .u64 0, .int .u64 0, .int .u8 0, .int .u8 0, .int .u8 0, .int .u8 0, .int .u8 0, .int .u8 0, .int .u8 0, .int .u8 0, .int .u8 0, .int .u8 0, .int .u8 0, .int .u8 0, .int .u8 0, .int .u8 0, .int .u8 0, .int .u8 0, .int .u8 0, .int .u8 0, .int .u8 0, .int .u8 0, .bool false, .string ⟨#[]⟩] 34, .blk p9 [.int .u8 (o.toNat : Int), .int .u8 0, .int .u8 0, .int .u64 0, .int .u64 0, .int .u8 0, .int .u8 0, .int .u8 0, .int .u8 0, .int .u8 0, .int .u8 0, .int .u8 0, .int .u8 0, .int .u8 0, .int .u8 0, .int .u8 0, .int .u8 0, .int .u8 0, .int .u8 0, .int .u8 0, .int .u8 0, .int .u8 0, .int .u8 0, .int .u8 0, .int .u8 0, .bool false, .string ⟨#[]⟩] 34] w27 := H29
      refine GL.semU (j := 5) r28 [0, 2, 4] [(0, .slice A xs.length c), (2, pt p3 0), (4, pt p9 0)] (by kernel_rfl) rfl rfl rfl ?_
      refine GL.k rfl hK26 (fun _ _ h => h) ?_
      refine G.seqK fun K30 hK31 => ?_
      refine G.region ?_
      refine GL.run (j := 1) 1 [0, 2, 4, 5] [(0, .slice A xs.length c), (2, pt p3 0), (4, pt p9 0), (5, .int .i64 1)] (by kernel_rfl) rfl ?_
      refine GL.k rfl hK31 (fun _ _ h => h) ?_
      refine G.seqK fun K32 hK33 => ?_
      refine G.region ?_
      refine GL.run (j := 1) 1 [0, 2, 4, 5, 6] [(0, .slice A xs.length c), (2, pt p3 0), (4, pt p9 0), (5, .int .i64 1), (6, .int .i64 0)] (by kernel_rfl) rfl ?_
      refine GL.k rfl hK33 (fun _ _ h => h) ?_
      refine G.seqK fun K34 hK35 => ?_
      refine G.seqK fun K36 hK37 => ?_
      refine G.region ?_
      obtain ⟨p38, w39, r40, H41⟩ := H29.madeRow (P := Try.prog) (Instr.buildSlice 26 6 #[(0, .int .u8 119), (1, .int .u8 116), (2, .int .u8 97), (3, .int .u8 105), (4, .int .u8 100), (5, .int .u8 103)]) (fun b_ => .slice (some ⟨b_, 0, none⟩) 6 6) [.int .u8 119, .int .u8 116, .int .u8 97, .int .u8 105, .int .u8 100, .int .u8 103] 5 6 6 1 (by kernel_rfl) (by decide) (by decide) rfl
      have H41 : Hp w [] [.blk p3 [.int .u8 0, .int .u8 0, .int .u8 0, .int .u64 0, .int .u64 0, .int .u8 0, .int .u8 0, .int .u8 0, .int .u8 0, .int .u8 0, .int .u8 0, .int .u8 0, .int .u8 0, .int .u8 0, .int .u8 0, .int .u8 0, .int .u8 0, .int .u8 0, .int .u8 0, .int .u8 0, .int .u8 0, .int .u8 0, .int .u8 0, .int .u8 0, .int .u8 0, .bool false, .string ⟨#[]⟩] 34, .blk p9 [.int .u8 (o.toNat : Int), .int .u8 0, .int .u8 0, .int .u64 0, .int .u64 0, .int .u8 0, .int .u8 0, .int .u8 0, .int .u8 0, .int .u8 0, .int .u8 0, .int .u8 0, .int .u8 0, .int .u8 0, .int .u8 0, .int .u8 0, .int .u8 0, .int .u8 0, .int .u8 0, .int .u8 0, .int .u8 0, .int .u8 0, .int .u8 0, .int .u8 0, .int .u8 0, .bool false, .string ⟨#[]⟩] 34, .row (some ⟨p38, 0, none⟩) 6 6 5 1 (by8 ([119, 116, 97, 105, 100, 103] : List UInt8))] w39 := H41
      refine GL.sem (j := 1) (r40) [0, 2, 4, 5, 6, 29] [(0, .slice A xs.length c), (2, pt p3 0), (4, pt p9 0), (5, .int .i64 1), (6, .int .i64 0), (29, .slice (some ⟨p38, 0, none⟩) 6 6)] (by kernel_rfl) (by kernel_rfl) rfl ?_
      refine GL.run (j := 3) 2 [0, 2, 4, 5, 6, 29, 30, 31] [(0, .slice A xs.length c), (2, pt p3 0), (4, pt p9 0), (5, .int .i64 1), (6, .int .i64 0), (29, .slice (some ⟨p38, 0, none⟩) 6 6), (30, .int .i64 6), (31, .int .i64 0)] (by kernel_rfl) rfl ?_
      refine GL.k rfl hK37 (fun _ _ h => h) ?_
      refine G.block ?_
      refine G.unroll 6 ?_
      refine G.seqK fun K42 hK43 => ?_
      refine G.region ?_
      refine GL.run (j := 1) 1 [0, 2, 4, 5, 6, 29, 30, 31, 32] [(0, .slice A xs.length c), (2, pt p3 0), (4, pt p9 0), (5, .int .i64 1), (6, .int .i64 0), (29, .slice (some ⟨p38, 0, none⟩) 6 6), (30, .int .i64 6), (31, .int .i64 0), (32, .bool true)] (by kernel_rfl) rfl ?_
      refine GL.k rfl hK43 (fun _ _ h => h) ?_
      refine G.seqK fun K44 hK45 => ?_
      refine G.yes rfl ?_
      refine G.skipK hK45 (fun _ _ h => h) ?_
      refine G.seqJ (X := Nat) (fun n1_ => [(0, .slice A xs.length c), (2, pt p3 0), (4, pt p9 0), (5, .int .i64 1), (6, .int .i64 (n1_ : Int)), (29, .slice (some ⟨p38, 0, none⟩) 6 6), (30, .int .i64 6), (31, .int .i64 0)]) (fun n1_ w_ => (Mv o 0 1 0 n1_) ∧ Hp w [] [.blk p3 [.int .u8 0, .int .u8 0, .int .u8 0, .int .u64 0, .int .u64 0, .int .u8 0, .int .u8 0, .int .u8 0, .int .u8 0, .int .u8 0, .int .u8 0, .int .u8 0, .int .u8 0, .int .u8 0, .int .u8 0, .int .u8 0, .int .u8 0, .int .u8 0, .int .u8 0, .int .u8 0, .int .u8 0, .int .u8 0, .int .u8 0, .int .u8 0, .int .u8 0, .bool false, .string ⟨#[]⟩] 34, .blk p9 [.int .u8 (o.toNat : Int), .int .u8 0, .int .u8 0, .int .u64 0, .int .u64 0, .int .u8 0, .int .u8 0, .int .u8 0, .int .u8 0, .int .u8 0, .int .u8 0, .int .u8 0, .int .u8 0, .int .u8 0, .int .u8 0, .int .u8 0, .int .u8 0, .int .u8 0, .int .u8 0, .int .u8 0, .int .u8 0, .int .u8 0, .int .u8 0, .int .u8 0, .int .u8 0, .bool false, .string ⟨#[]⟩] 34, .row (some ⟨p38, 0, none⟩) 6 6 5 1 (by8 ([119, 116, 97, 105, 100, 103] : List UInt8))] w_) (fun J46 K47 hK48 => ?_) ?_
      · skip
        refine G.block ?_
        refine G.seqK fun K49 hK50 => ?_
        refine G.region ?_
        refine GL.sem (j := 1) (run_idxRd (P := Try.prog) (k := .i64) (t := 26) (A := (some ⟨p38, 0, none⟩)) (len := 6) (cap := 6) (j := 0) (by kernel_rfl) rfl (H41.rdRow 2 rfl) (by rw [by8_length]; first | rfl | omega | exact (cnt_length _).symm | (simp only [List.length_cons, List.length_nil, List.length_drop, List.length_take, List.length_append] <;> omega)) (by omega)) [0, 2, 4, 5, 6, 29, 30, 31, 33] [(0, .slice A xs.length c), (2, pt p3 0), (4, pt p9 0), (5, .int .i64 1), (6, .int .i64 0), (29, .slice (some ⟨p38, 0, none⟩) 6 6), (30, .int .i64 6), (31, .int .i64 0), (33, .pointer (Option.map (fun x => Addr.add x 0) (some ⟨p38, 0, none⟩)))] (by kernel_rfl) (by kernel_rfl) rfl ?_
        refine GL.sem (j := 2) (run_ldRd (P := Try.prog) (ty := 5) (A := (some ⟨p38, 0, none⟩)) (j := 0) (v := .int .u8 119) (by kernel_rfl) (H41.rdRow 2 rfl) (rfl)) [0, 2, 4, 5, 6, 29, 30, 31, 34] [(0, .slice A xs.length c), (2, pt p3 0), (4, pt p9 0), (5, .int .i64 1), (6, .int .i64 0), (29, .slice (some ⟨p38, 0, none⟩) 6 6), (30, .int .i64 6), (31, .int .i64 0), (34, .int .u8 119)] (by kernel_rfl) (by kernel_rfl) rfl ?_
        refine GL.run (j := 3) 1 [0, 2, 4, 5, 6, 8, 29, 30, 31] [(0, .slice A xs.length c), (2, pt p3 0), (4, pt p9 0), (5, .int .i64 1), (6, .int .i64 0), (8, .int .u8 119), (29, .slice (some ⟨p38, 0, none⟩) 6 6), (30, .int .i64 6), (31, .int .i64 0)] (by kernel_rfl) rfl ?_
        refine GL.k rfl hK50 (fun _ _ h => h) ?_
        refine G.seqK fun K51 hK52 => ?_
        refine G.region ?_
        refine GL.run (j := 1) 1 [0, 2, 4, 5, 6, 8, 29, 30, 31, 35] [(0, .slice A xs.length c), (2, pt p3 0), (4, pt p9 0), (5, .int .i64 1), (6, .int .i64 0), (8, .int .u8 119), (29, .slice (some ⟨p38, 0, none⟩) 6 6), (30, .int .i64 6), (31, .int .i64 0), (35, pt p9 0)] (by kernel_rfl) rfl ?_
        refine GL.sem (j := 2) (H41.ld (o := 0) (ty := 5) (v := .int .u8 (o.toNat : Int)) 1 rfl (by kernel_rfl) rfl) [0, 2, 4, 5, 6, 8, 29, 30, 31, 36] [(0, .slice A xs.length c), (2, pt p3 0), (4, pt p9 0), (5, .int .i64 1), (6, .int .i64 0), (8, .int .u8 119), (29, .slice (some ⟨p38, 0, none⟩) 6 6), (30, .int .i64 6), (31, .int .i64 0), (36, .int .u8 (o.toNat : Int))] (by kernel_rfl) (by kernel_rfl) rfl ?_
        refine GL.run (j := 3) 1 [0, 2, 4, 5, 6, 8, 29, 30, 31, 36, 37] [(0, .slice A xs.length c), (2, pt p3 0), (4, pt p9 0), (5, .int .i64 1), (6, .int .i64 0), (8, .int .u8 119), (29, .slice (some ⟨p38, 0, none⟩) 6 6), (30, .int .i64 6), (31, .int .i64 0), (36, .int .u8 (o.toNat : Int)), (37, .int .u8 119)] (by kernel_rfl) rfl ?_
        refine GL.call (j := 4) (uses_calls o 119 w39) (by kernel_rfl) rfl (fun e_ w53 hR => ?_)
        obtain ⟨rfl, H55⟩ := hR
        have H54 : Hp w [] [.blk p3 [.int .u8 0, .int .u8 0, .int .u8 0, .int .u64 0, .int .u64 0, .int .u8 0, .int .u8 0, .int .u8 0, .int .u8 0, .int .u8 0, .int .u8 0, .int .u8 0, .int .u8 0, .int .u8 0, .int .u8 0, .int .u8 0, .int .u8 0, .int .u8 0, .int .u8 0, .int .u8 0, .int .u8 0, .int .u8 0, .int .u8 0, .int .u8 0, .int .u8 0, .bool false, .string ⟨#[]⟩] 34, .blk p9 [.int .u8 (o.toNat : Int), .int .u8 0, .int .u8 0, .int .u64 0, .int .u64 0, .int .u8 0, .int .u8 0, .int .u8 0, .int .u8 0, .int .u8 0, .int .u8 0, .int .u8 0, .int .u8 0, .int .u8 0, .int .u8 0, .int .u8 0, .int .u8 0, .int .u8 0, .int .u8 0, .int .u8 0, .int .u8 0, .int .u8 0, .int .u8 0, .int .u8 0, .int .u8 0, .bool false, .string ⟨#[]⟩] 34, .row (some ⟨p38, 0, none⟩) 6 6 5 1 (by8 ([119, 116, 97, 105, 100, 103] : List UInt8))] w53 := H41.callNil H55
        refine ⟨_, rfl, [0, 2, 4, 5, 6, 8, 29, 30, 31, 38], [(0, .slice A xs.length c), (2, pt p3 0), (4, pt p9 0), (5, .int .i64 1), (6, .int .i64 0), (8, .int .u8 119), (29, .slice (some ⟨p38, 0, none⟩) 6 6), (30, .int .i64 6), (31, .int .i64 0), (38, .bool (hasF o.toNat 119))], by kernel_rfl, ?_⟩
        refine GL.k rfl hK52 (fun _ _ h => h) ?_
        cases hb56 : (hasF o.toNat 119)
        · skip
          have hbit0 : ¬ fm o.toNat / 2 ^ 0 % 2 = 1 := fun h_ => by rw [(has_bits _).1.2 h_] at hb56; cases hb56
          refine G.no rfl ?_
          refine G.skipK hK48 (fun _ _ h => h) ?_
          refine G.fit [0, 2, 4, 5, 6, 29, 30, 31] (M' := [(0, .slice A xs.length c), (2, pt p3 0), (4, pt p9 0), (5, .int .i64 1), (6, .int .i64 0), (29, .slice (some ⟨p38, 0, none⟩) 6 6), (30, .int .i64 6), (31, .int .i64 0)]) (by kernel_rfl) ?_
          exact J46 0 _ ⟨by unfold Mv; exact .inr ⟨hbit0, rfl⟩, H54⟩
        · skip
          have hbit0 : fm o.toNat / 2 ^ 0 % 2 = 1 := (has_bits _).1.1 hb56
          refine G.yes rfl ?_
          refine G.seqK fun K57 hK58 => ?_
          refine G.region ?_
          refine GL.run (j := 1) 1 [0, 2, 4, 5, 6, 29, 30, 31, 39] [(0, .slice A xs.length c), (2, pt p3 0), (4, pt p9 0), (5, .int .i64 1), (6, .int .i64 0), (29, .slice (some ⟨p38, 0, none⟩) 6 6), (30, .int .i64 6), (31, .int .i64 0), (39, .int .u8 119)] (by kernel_rfl) rfl ?_
          refine GL.k rfl hK58 (fun _ _ h => h) ?_
          refine G.block ?_
          refine G.seqK fun K59 hK60 => ?_
          refine G.seqK fun K61 hK62 => ?_
          refine G.region ?_
          refine GL.run (j := 2) 2 [0, 2, 4, 5, 6, 29, 30, 31, 39, 42] [(0, .slice A xs.length c), (2, pt p3 0), (4, pt p9 0), (5, .int .i64 1), (6, .int .i64 0), (29, .slice (some ⟨p38, 0, none⟩) 6 6), (30, .int .i64 6), (31, .int .i64 0), (39, .int .u8 119), (42, .bool false)] (by kernel_rfl) rfl ?_
          refine GL.k rfl hK62 (fun _ _ h => h) ?_
          refine G.no rfl ?_
          refine G.region ?_
          refine GL.run (j := 2) 2 [0, 2, 4, 5, 6, 29, 30, 31, 39, 42] [(0, .slice A xs.length c), (2, pt p3 0), (4, pt p9 0), (5, .int .i64 1), (6, .int .i64 0), (29, .slice (some ⟨p38, 0, none⟩) 6 6), (30, .int .i64 6), (31, .int .i64 0), (39, .int .u8 119), (42, .bool false)] (by kernel_rfl) rfl ?_
          refine GL.k rfl hK60 (fun _ _ h => h) ?_
          refine G.no rfl ?_
          refine G.seqK fun K63 hK64 => ?_
          refine G.region ?_
          refine GL.run (j := 2) 2 [0, 2, 4, 5, 6, 29, 30, 31, 47] [(0, .slice A xs.length c), (2, pt p3 0), (4, pt p9 0), (5, .int .i64 1), (6, .int .i64 0), (29, .slice (some ⟨p38, 0, none⟩) 6 6), (30, .int .i64 6), (31, .int .i64 0), (47, .bool false)] (by kernel_rfl) rfl ?_
          refine GL.k rfl hK64 (fun _ _ h => h) ?_
          refine G.no rfl ?_
          refine G.region ?_
          refine GL.run (j := 3) 3 [0, 2, 4, 5, 6, 29, 30, 31] [(0, .slice A xs.length c), (2, pt p3 0), (4, pt p9 0), (5, .int .i64 1), (6, .int .i64 1), (29, .slice (some ⟨p38, 0, none⟩) 6 6), (30, .int .i64 6), (31, .int .i64 0)] (by kernel_rfl) rfl ?_
          refine GL.k rfl hK48 (fun _ _ h => h) ?_
          refine G.fit [0, 2, 4, 5, 6, 29, 30, 31] (M' := [(0, .slice A xs.length c), (2, pt p3 0), (4, pt p9 0), (5, .int .i64 1), (6, .int .i64 1), (29, .slice (some ⟨p38, 0, none⟩) 6 6), (30, .int .i64 6), (31, .int .i64 0)]) (by kernel_rfl) ?_
          exact J46 1 _ ⟨by unfold Mv; exact .inl ⟨hbit0, by omega⟩, H54⟩
      · skip
        rintro n1_ w65 ⟨hi66, H67⟩
        refine G.eq (M' := [(0, .slice A xs.length c), (2, pt p3 0), (4, pt p9 0), (5, .int .i64 1), (6, .int .i64 (n1_ : Int)), (29, .slice (some ⟨p38, 0, none⟩) 6 6), (30, .int .i64 6), (31, .int .i64 0)]) rfl ?_
        have H67 : Hp w [] [.blk p3 [.int .u8 0, .int .u8 0, .int .u8 0, .int .u64 0, .int .u64 0, .int .u8 0, .int .u8 0, .int .u8 0, .int .u8 0, .int .u8 0, .int .u8 0, .int .u8 0, .int .u8 0, .int .u8 0, .int .u8 0, .int .u8 0, .int .u8 0, .int .u8 0, .int .u8 0, .int .u8 0, .int .u8 0, .int .u8 0, .int .u8 0, .int .u8 0, .int .u8 0, .bool false, .string ⟨#[]⟩] 34, .blk p9 [.int .u8 (o.toNat : Int), .int .u8 0, .int .u8 0, .int .u64 0, .int .u64 0, .int .u8 0, .int .u8 0, .int .u8 0, .int .u8 0, .int .u8 0, .int .u8 0, .int .u8 0, .int .u8 0, .int .u8 0, .int .u8 0, .int .u8 0, .int .u8 0, .int .u8 0, .int .u8 0, .int .u8 0, .int .u8 0, .int .u8 0, .int .u8 0, .int .u8 0, .int .u8 0, .bool false, .string ⟨#[]⟩] 34, .row (some ⟨p38, 0, none⟩) 6 6 5 1 (by8 ([119, 116, 97, 105, 100, 103] : List UInt8))] w65 := H67
        have hn0 := hi66
        have hnl0 := mv_up hn0
        refine G.region ?_
        refine GL.run (j := 2) 2 [0, 2, 4, 5, 6, 29, 30, 31] [(0, .slice A xs.length c), (2, pt p3 0), (4, pt p9 0), (5, .int .i64 1), (6, .int .i64 (n1_ : Int)), (29, .slice (some ⟨p38, 0, none⟩) 6 6), (30, .int .i64 6), (31, .int .i64 1)] (by kernel_rfl) rfl ?_
        refine GL.round rfl ?_
        refine G.seqK fun K68 hK69 => ?_
        refine G.region ?_
        refine GL.run (j := 1) 1 [0, 2, 4, 5, 6, 29, 30, 31, 32] [(0, .slice A xs.length c), (2, pt p3 0), (4, pt p9 0), (5, .int .i64 1), (6, .int .i64 (n1_ : Int)), (29, .slice (some ⟨p38, 0, none⟩) 6 6), (30, .int .i64 6), (31, .int .i64 1), (32, .bool true)] (by kernel_rfl) rfl ?_
        refine GL.k rfl hK69 (fun _ _ h => h) ?_
        refine G.seqK fun K70 hK71 => ?_
        refine G.yes rfl ?_
        refine G.skipK hK71 (fun _ _ h => h) ?_
        refine G.seqJ (X := Nat) (fun n2_ => [(0, .slice A xs.length c), (2, pt p3 0), (4, pt p9 0), (5, .int .i64 1), (6, .int .i64 (n2_ : Int)), (29, .slice (some ⟨p38, 0, none⟩) 6 6), (30, .int .i64 6), (31, .int .i64 1)]) (fun n2_ w_ => (Mv o 1 1 n1_ n2_) ∧ Hp w [] [.blk p3 [.int .u8 0, .int .u8 0, .int .u8 0, .int .u64 0, .int .u64 0, .int .u8 0, .int .u8 0, .int .u8 0, .int .u8 0, .int .u8 0, .int .u8 0, .int .u8 0, .int .u8 0, .int .u8 0, .int .u8 0, .int .u8 0, .int .u8 0, .int .u8 0, .int .u8 0, .int .u8 0, .int .u8 0, .int .u8 0, .int .u8 0, .int .u8 0, .int .u8 0, .bool false, .string ⟨#[]⟩] 34, .blk p9 [.int .u8 (o.toNat : Int), .int .u8 0, .int .u8 0, .int .u64 0, .int .u64 0, .int .u8 0, .int .u8 0, .int .u8 0, .int .u8 0, .int .u8 0, .int .u8 0, .int .u8 0, .int .u8 0, .int .u8 0, .int .u8 0, .int .u8 0, .int .u8 0, .int .u8 0, .int .u8 0, .int .u8 0, .int .u8 0, .int .u8 0, .int .u8 0, .int .u8 0, .int .u8 0, .bool false, .string ⟨#[]⟩] 34, .row (some ⟨p38, 0, none⟩) 6 6 5 1 (by8 ([119, 116, 97, 105, 100, 103] : List UInt8))] w_) (fun J72 K73 hK74 => ?_) ?_
        · skip
          refine G.block ?_
          refine G.seqK fun K75 hK76 => ?_
          refine G.region ?_
          refine GL.sem (j := 1) (run_idxRd (P := Try.prog) (k := .i64) (t := 26) (A := (some ⟨p38, 0, none⟩)) (len := 6) (cap := 6) (j := 1) (by kernel_rfl) rfl (H67.rdRow 2 rfl) (by rw [by8_length]; first | rfl | omega | exact (cnt_length _).symm | (simp only [List.length_cons, List.length_nil, List.length_drop, List.length_take, List.length_append] <;> omega)) (by omega)) [0, 2, 4, 5, 6, 29, 30, 31, 33] [(0, .slice A xs.length c), (2, pt p3 0), (4, pt p9 0), (5, .int .i64 1), (6, .int .i64 (n1_ : Int)), (29, .slice (some ⟨p38, 0, none⟩) 6 6), (30, .int .i64 6), (31, .int .i64 1), (33, .pointer (Option.map (fun x => Addr.add x 1) (some ⟨p38, 0, none⟩)))] (by kernel_rfl) (by kernel_rfl) rfl ?_
          refine GL.sem (j := 2) (run_ldRd (P := Try.prog) (ty := 5) (A := (some ⟨p38, 0, none⟩)) (j := 1) (v := .int .u8 116) (by kernel_rfl) (H67.rdRow 2 rfl) (rfl)) [0, 2, 4, 5, 6, 29, 30, 31, 34] [(0, .slice A xs.length c), (2, pt p3 0), (4, pt p9 0), (5, .int .i64 1), (6, .int .i64 (n1_ : Int)), (29, .slice (some ⟨p38, 0, none⟩) 6 6), (30, .int .i64 6), (31, .int .i64 1), (34, .int .u8 116)] (by kernel_rfl) (by kernel_rfl) rfl ?_
          refine GL.run (j := 3) 1 [0, 2, 4, 5, 6, 8, 29, 30, 31] [(0, .slice A xs.length c), (2, pt p3 0), (4, pt p9 0), (5, .int .i64 1), (6, .int .i64 (n1_ : Int)), (8, .int .u8 116), (29, .slice (some ⟨p38, 0, none⟩) 6 6), (30, .int .i64 6), (31, .int .i64 1)] (by kernel_rfl) rfl ?_
          refine GL.k rfl hK76 (fun _ _ h => h) ?_
          refine G.seqK fun K77 hK78 => ?_
          refine G.region ?_
          refine GL.run (j := 1) 1 [0, 2, 4, 5, 6, 8, 29, 30, 31, 35] [(0, .slice A xs.length c), (2, pt p3 0), (4, pt p9 0), (5, .int .i64 1), (6, .int .i64 (n1_ : Int)), (8, .int .u8 116), (29, .slice (some ⟨p38, 0, none⟩) 6 6), (30, .int .i64 6), (31, .int .i64 1), (35, pt p9 0)] (by kernel_rfl) rfl ?_
          refine GL.sem (j := 2) (H67.ld (o := 0) (ty := 5) (v := .int .u8 (o.toNat : Int)) 1 rfl (by kernel_rfl) rfl) [0, 2, 4, 5, 6, 8, 29, 30, 31, 36] [(0, .slice A xs.length c), (2, pt p3 0), (4, pt p9 0), (5, .int .i64 1), (6, .int .i64 (n1_ : Int)), (8, .int .u8 116), (29, .slice (some ⟨p38, 0, none⟩) 6 6), (30, .int .i64 6), (31, .int .i64 1), (36, .int .u8 (o.toNat : Int))] (by kernel_rfl) (by kernel_rfl) rfl ?_
          refine GL.run (j := 3) 1 [0, 2, 4, 5, 6, 8, 29, 30, 31, 36, 37] [(0, .slice A xs.length c), (2, pt p3 0), (4, pt p9 0), (5, .int .i64 1), (6, .int .i64 (n1_ : Int)), (8, .int .u8 116), (29, .slice (some ⟨p38, 0, none⟩) 6 6), (30, .int .i64 6), (31, .int .i64 1), (36, .int .u8 (o.toNat : Int)), (37, .int .u8 116)] (by kernel_rfl) rfl ?_
          refine GL.call (j := 4) (uses_calls o 116 w65) (by kernel_rfl) rfl (fun e_ w79 hR => ?_)
          obtain ⟨rfl, H81⟩ := hR
          have H80 : Hp w [] [.blk p3 [.int .u8 0, .int .u8 0, .int .u8 0, .int .u64 0, .int .u64 0, .int .u8 0, .int .u8 0, .int .u8 0, .int .u8 0, .int .u8 0, .int .u8 0, .int .u8 0, .int .u8 0, .int .u8 0, .int .u8 0, .int .u8 0, .int .u8 0, .int .u8 0, .int .u8 0, .int .u8 0, .int .u8 0, .int .u8 0, .int .u8 0, .int .u8 0, .int .u8 0, .bool false, .string ⟨#[]⟩] 34, .blk p9 [.int .u8 (o.toNat : Int), .int .u8 0, .int .u8 0, .int .u64 0, .int .u64 0, .int .u8 0, .int .u8 0, .int .u8 0, .int .u8 0, .int .u8 0, .int .u8 0, .int .u8 0, .int .u8 0, .int .u8 0, .int .u8 0, .int .u8 0, .int .u8 0, .int .u8 0, .int .u8 0, .int .u8 0, .int .u8 0, .int .u8 0, .int .u8 0, .int .u8 0, .int .u8 0, .bool false, .string ⟨#[]⟩] 34, .row (some ⟨p38, 0, none⟩) 6 6 5 1 (by8 ([119, 116, 97, 105, 100, 103] : List UInt8))] w79 := H67.callNil H81
          refine ⟨_, rfl, [0, 2, 4, 5, 6, 8, 29, 30, 31, 38], [(0, .slice A xs.length c), (2, pt p3 0), (4, pt p9 0), (5, .int .i64 1), (6, .int .i64 (n1_ : Int)), (8, .int .u8 116), (29, .slice (some ⟨p38, 0, none⟩) 6 6), (30, .int .i64 6), (31, .int .i64 1), (38, .bool (hasF o.toNat 116))], by kernel_rfl, ?_⟩
          refine GL.k rfl hK78 (fun _ _ h => h) ?_
          cases hb82 : (hasF o.toNat 116)
          · skip
            have hbit1 : ¬ fm o.toNat / 2 ^ 1 % 2 = 1 := fun h_ => by rw [(has_bits _).2.1.2 h_] at hb82; cases hb82
            refine G.no rfl ?_
            refine G.skipK hK74 (fun _ _ h => h) ?_
            refine G.fit [0, 2, 4, 5, 6, 29, 30, 31] (M' := [(0, .slice A xs.length c), (2, pt p3 0), (4, pt p9 0), (5, .int .i64 1), (6, .int .i64 (n1_ : Int)), (29, .slice (some ⟨p38, 0, none⟩) 6 6), (30, .int .i64 6), (31, .int .i64 1)]) (by kernel_rfl) ?_
            exact J72 n1_ _ ⟨by unfold Mv; exact .inr ⟨hbit1, rfl⟩, H80⟩
          · skip
            have hbit1 : fm o.toNat / 2 ^ 1 % 2 = 1 := (has_bits _).2.1.1 hb82
            refine G.yes rfl ?_
            refine G.seqK fun K83 hK84 => ?_
            refine G.region ?_
            refine GL.run (j := 1) 1 [0, 2, 4, 5, 6, 29, 30, 31, 39] [(0, .slice A xs.length c), (2, pt p3 0), (4, pt p9 0), (5, .int .i64 1), (6, .int .i64 (n1_ : Int)), (29, .slice (some ⟨p38, 0, none⟩) 6 6), (30, .int .i64 6), (31, .int .i64 1), (39, .int .u8 116)] (by kernel_rfl) rfl ?_
            refine GL.k rfl hK84 (fun _ _ h => h) ?_
            refine G.block ?_
            refine G.seqK fun K85 hK86 => ?_
            refine G.seqK fun K87 hK88 => ?_
            refine G.region ?_
            refine GL.run (j := 2) 2 [0, 2, 4, 5, 6, 29, 30, 31, 39, 42] [(0, .slice A xs.length c), (2, pt p3 0), (4, pt p9 0), (5, .int .i64 1), (6, .int .i64 (n1_ : Int)), (29, .slice (some ⟨p38, 0, none⟩) 6 6), (30, .int .i64 6), (31, .int .i64 1), (39, .int .u8 116), (42, .bool false)] (by kernel_rfl) rfl ?_
            refine GL.k rfl hK88 (fun _ _ h => h) ?_
            refine G.no rfl ?_
            refine G.region ?_
            refine GL.run (j := 2) 2 [0, 2, 4, 5, 6, 29, 30, 31, 39, 42] [(0, .slice A xs.length c), (2, pt p3 0), (4, pt p9 0), (5, .int .i64 1), (6, .int .i64 (n1_ : Int)), (29, .slice (some ⟨p38, 0, none⟩) 6 6), (30, .int .i64 6), (31, .int .i64 1), (39, .int .u8 116), (42, .bool false)] (by kernel_rfl) rfl ?_
            refine GL.k rfl hK86 (fun _ _ h => h) ?_
            refine G.no rfl ?_
            refine G.seqK fun K89 hK90 => ?_
            refine G.region ?_
            refine GL.run (j := 2) 2 [0, 2, 4, 5, 6, 29, 30, 31, 47] [(0, .slice A xs.length c), (2, pt p3 0), (4, pt p9 0), (5, .int .i64 1), (6, .int .i64 (n1_ : Int)), (29, .slice (some ⟨p38, 0, none⟩) 6 6), (30, .int .i64 6), (31, .int .i64 1), (47, .bool false)] (by kernel_rfl) rfl ?_
            refine GL.k rfl hK90 (fun _ _ h => h) ?_
            refine G.no rfl ?_
            refine G.region ?_
            refine GL.run (j := 3) 3 [0, 2, 4, 5, 6, 29, 30, 31] [(0, .slice A xs.length c), (2, pt p3 0), (4, pt p9 0), (5, .int .i64 1), (6, .int .i64 (IntKind.i64.wrap ((n1_ : Int) + 1))), (29, .slice (some ⟨p38, 0, none⟩) 6 6), (30, .int .i64 6), (31, .int .i64 1)] (by kernel_rfl) rfl ?_
            have e91 : (IntKind.i64.wrap ((n1_ : Int) + 1)) = ((n1_ + 1 : Nat) : Int) := by rw [in_i64 (by omega)]; omega
            refine GL.eq (M' := [(0, .slice A xs.length c), (2, pt p3 0), (4, pt p9 0), (5, .int .i64 1), (6, .int .i64 ((n1_ + 1 : Nat) : Int)), (29, .slice (some ⟨p38, 0, none⟩) 6 6), (30, .int .i64 6), (31, .int .i64 1)]) (by rw [e91]) ?_
            clear e91
            refine GL.k rfl hK74 (fun _ _ h => h) ?_
            refine G.fit [0, 2, 4, 5, 6, 29, 30, 31] (M' := [(0, .slice A xs.length c), (2, pt p3 0), (4, pt p9 0), (5, .int .i64 1), (6, .int .i64 ((n1_ + 1 : Nat) : Int)), (29, .slice (some ⟨p38, 0, none⟩) 6 6), (30, .int .i64 6), (31, .int .i64 1)]) (by kernel_rfl) ?_
            exact J72 (n1_ + 1) _ ⟨by unfold Mv; exact .inl ⟨hbit1, by omega⟩, H80⟩
        · skip
          rintro n2_ w92 ⟨hi93, H94⟩
          refine G.eq (M' := [(0, .slice A xs.length c), (2, pt p3 0), (4, pt p9 0), (5, .int .i64 1), (6, .int .i64 (n2_ : Int)), (29, .slice (some ⟨p38, 0, none⟩) 6 6), (30, .int .i64 6), (31, .int .i64 1)]) rfl ?_
          have H94 : Hp w [] [.blk p3 [.int .u8 0, .int .u8 0, .int .u8 0, .int .u64 0, .int .u64 0, .int .u8 0, .int .u8 0, .int .u8 0, .int .u8 0, .int .u8 0, .int .u8 0, .int .u8 0, .int .u8 0, .int .u8 0, .int .u8 0, .int .u8 0, .int .u8 0, .int .u8 0, .int .u8 0, .int .u8 0, .int .u8 0, .int .u8 0, .int .u8 0, .int .u8 0, .int .u8 0, .bool false, .string ⟨#[]⟩] 34, .blk p9 [.int .u8 (o.toNat : Int), .int .u8 0, .int .u8 0, .int .u64 0, .int .u64 0, .int .u8 0, .int .u8 0, .int .u8 0, .int .u8 0, .int .u8 0, .int .u8 0, .int .u8 0, .int .u8 0, .int .u8 0, .int .u8 0, .int .u8 0, .int .u8 0, .int .u8 0, .int .u8 0, .int .u8 0, .int .u8 0, .int .u8 0, .int .u8 0, .int .u8 0, .int .u8 0, .bool false, .string ⟨#[]⟩] 34, .row (some ⟨p38, 0, none⟩) 6 6 5 1 (by8 ([119, 116, 97, 105, 100, 103] : List UInt8))] w92 := H94
          have hn1 := hi93
          have hnl1 := mv_up hn1
          refine G.region ?_
          refine GL.run (j := 2) 2 [0, 2, 4, 5, 6, 29, 30, 31] [(0, .slice A xs.length c), (2, pt p3 0), (4, pt p9 0), (5, .int .i64 1), (6, .int .i64 (n2_ : Int)), (29, .slice (some ⟨p38, 0, none⟩) 6 6), (30, .int .i64 6), (31, .int .i64 2)] (by kernel_rfl) rfl ?_
          refine GL.round rfl ?_
          refine G.seqK fun K95 hK96 => ?_
          refine G.region ?_
          refine GL.run (j := 1) 1 [0, 2, 4, 5, 6, 29, 30, 31, 32] [(0, .slice A xs.length c), (2, pt p3 0), (4, pt p9 0), (5, .int .i64 1), (6, .int .i64 (n2_ : Int)), (29, .slice (some ⟨p38, 0, none⟩) 6 6), (30, .int .i64 6), (31, .int .i64 2), (32, .bool true)] (by kernel_rfl) rfl ?_
          refine GL.k rfl hK96 (fun _ _ h => h) ?_
          refine G.seqK fun K97 hK98 => ?_
          refine G.yes rfl ?_
          refine G.skipK hK98 (fun _ _ h => h) ?_
          refine G.seqJ (X := Nat) (fun n3_ => [(0, .slice A xs.length c), (2, pt p3 0), (4, pt p9 0), (5, .int .i64 1), (6, .int .i64 (n3_ : Int)), (29, .slice (some ⟨p38, 0, none⟩) 6 6), (30, .int .i64 6), (31, .int .i64 2)]) (fun n3_ w_ => (Mv o 2 8 n2_ n3_) ∧ Hp w [] [.blk p3 [.int .u8 0, .int .u8 0, .int .u8 0, .int .u64 0, .int .u64 0, .int .u8 0, .int .u8 0, .int .u8 0, .int .u8 0, .int .u8 0, .int .u8 0, .int .u8 0, .int .u8 0, .int .u8 0, .int .u8 0, .int .u8 0, .int .u8 0, .int .u8 0, .int .u8 0, .int .u8 0, .int .u8 0, .int .u8 0, .int .u8 0, .int .u8 0, .int .u8 0, .bool false, .string ⟨#[]⟩] 34, .blk p9 [.int .u8 (o.toNat : Int), .int .u8 0, .int .u8 0, .int .u64 0, .int .u64 0, .int .u8 0, .int .u8 0, .int .u8 0, .int .u8 0, .int .u8 0, .int .u8 0, .int .u8 0, .int .u8 0, .int .u8 0, .int .u8 0, .int .u8 0, .int .u8 0, .int .u8 0, .int .u8 0, .int .u8 0, .int .u8 0, .int .u8 0, .int .u8 0, .int .u8 0, .int .u8 0, .bool false, .string ⟨#[]⟩] 34, .row (some ⟨p38, 0, none⟩) 6 6 5 1 (by8 ([119, 116, 97, 105, 100, 103] : List UInt8))] w_) (fun J99 K100 hK101 => ?_) ?_
          · skip
            refine G.block ?_
            refine G.seqK fun K102 hK103 => ?_
            refine G.region ?_
            refine GL.sem (j := 1) (run_idxRd (P := Try.prog) (k := .i64) (t := 26) (A := (some ⟨p38, 0, none⟩)) (len := 6) (cap := 6) (j := 2) (by kernel_rfl) rfl (H94.rdRow 2 rfl) (by rw [by8_length]; first | rfl | omega | exact (cnt_length _).symm | (simp only [List.length_cons, List.length_nil, List.length_drop, List.length_take, List.length_append] <;> omega)) (by omega)) [0, 2, 4, 5, 6, 29, 30, 31, 33] [(0, .slice A xs.length c), (2, pt p3 0), (4, pt p9 0), (5, .int .i64 1), (6, .int .i64 (n2_ : Int)), (29, .slice (some ⟨p38, 0, none⟩) 6 6), (30, .int .i64 6), (31, .int .i64 2), (33, .pointer (Option.map (fun x => Addr.add x 2) (some ⟨p38, 0, none⟩)))] (by kernel_rfl) (by kernel_rfl) rfl ?_
            refine GL.sem (j := 2) (run_ldRd (P := Try.prog) (ty := 5) (A := (some ⟨p38, 0, none⟩)) (j := 2) (v := .int .u8 97) (by kernel_rfl) (H94.rdRow 2 rfl) (rfl)) [0, 2, 4, 5, 6, 29, 30, 31, 34] [(0, .slice A xs.length c), (2, pt p3 0), (4, pt p9 0), (5, .int .i64 1), (6, .int .i64 (n2_ : Int)), (29, .slice (some ⟨p38, 0, none⟩) 6 6), (30, .int .i64 6), (31, .int .i64 2), (34, .int .u8 97)] (by kernel_rfl) (by kernel_rfl) rfl ?_
            refine GL.run (j := 3) 1 [0, 2, 4, 5, 6, 8, 29, 30, 31] [(0, .slice A xs.length c), (2, pt p3 0), (4, pt p9 0), (5, .int .i64 1), (6, .int .i64 (n2_ : Int)), (8, .int .u8 97), (29, .slice (some ⟨p38, 0, none⟩) 6 6), (30, .int .i64 6), (31, .int .i64 2)] (by kernel_rfl) rfl ?_
            refine GL.k rfl hK103 (fun _ _ h => h) ?_
            refine G.seqK fun K104 hK105 => ?_
            refine G.region ?_
            refine GL.run (j := 1) 1 [0, 2, 4, 5, 6, 8, 29, 30, 31, 35] [(0, .slice A xs.length c), (2, pt p3 0), (4, pt p9 0), (5, .int .i64 1), (6, .int .i64 (n2_ : Int)), (8, .int .u8 97), (29, .slice (some ⟨p38, 0, none⟩) 6 6), (30, .int .i64 6), (31, .int .i64 2), (35, pt p9 0)] (by kernel_rfl) rfl ?_
            refine GL.sem (j := 2) (H94.ld (o := 0) (ty := 5) (v := .int .u8 (o.toNat : Int)) 1 rfl (by kernel_rfl) rfl) [0, 2, 4, 5, 6, 8, 29, 30, 31, 36] [(0, .slice A xs.length c), (2, pt p3 0), (4, pt p9 0), (5, .int .i64 1), (6, .int .i64 (n2_ : Int)), (8, .int .u8 97), (29, .slice (some ⟨p38, 0, none⟩) 6 6), (30, .int .i64 6), (31, .int .i64 2), (36, .int .u8 (o.toNat : Int))] (by kernel_rfl) (by kernel_rfl) rfl ?_
            refine GL.run (j := 3) 1 [0, 2, 4, 5, 6, 8, 29, 30, 31, 36, 37] [(0, .slice A xs.length c), (2, pt p3 0), (4, pt p9 0), (5, .int .i64 1), (6, .int .i64 (n2_ : Int)), (8, .int .u8 97), (29, .slice (some ⟨p38, 0, none⟩) 6 6), (30, .int .i64 6), (31, .int .i64 2), (36, .int .u8 (o.toNat : Int)), (37, .int .u8 97)] (by kernel_rfl) rfl ?_
            refine GL.call (j := 4) (uses_calls o 97 w92) (by kernel_rfl) rfl (fun e_ w106 hR => ?_)
            obtain ⟨rfl, H108⟩ := hR
            have H107 : Hp w [] [.blk p3 [.int .u8 0, .int .u8 0, .int .u8 0, .int .u64 0, .int .u64 0, .int .u8 0, .int .u8 0, .int .u8 0, .int .u8 0, .int .u8 0, .int .u8 0, .int .u8 0, .int .u8 0, .int .u8 0, .int .u8 0, .int .u8 0, .int .u8 0, .int .u8 0, .int .u8 0, .int .u8 0, .int .u8 0, .int .u8 0, .int .u8 0, .int .u8 0, .int .u8 0, .bool false, .string ⟨#[]⟩] 34, .blk p9 [.int .u8 (o.toNat : Int), .int .u8 0, .int .u8 0, .int .u64 0, .int .u64 0, .int .u8 0, .int .u8 0, .int .u8 0, .int .u8 0, .int .u8 0, .int .u8 0, .int .u8 0, .int .u8 0, .int .u8 0, .int .u8 0, .int .u8 0, .int .u8 0, .int .u8 0, .int .u8 0, .int .u8 0, .int .u8 0, .int .u8 0, .int .u8 0, .int .u8 0, .int .u8 0, .bool false, .string ⟨#[]⟩] 34, .row (some ⟨p38, 0, none⟩) 6 6 5 1 (by8 ([119, 116, 97, 105, 100, 103] : List UInt8))] w106 := H94.callNil H108
            refine ⟨_, rfl, [0, 2, 4, 5, 6, 8, 29, 30, 31, 38], [(0, .slice A xs.length c), (2, pt p3 0), (4, pt p9 0), (5, .int .i64 1), (6, .int .i64 (n2_ : Int)), (8, .int .u8 97), (29, .slice (some ⟨p38, 0, none⟩) 6 6), (30, .int .i64 6), (31, .int .i64 2), (38, .bool (hasF o.toNat 97))], by kernel_rfl, ?_⟩
            refine GL.k rfl hK105 (fun _ _ h => h) ?_
            cases hb109 : (hasF o.toNat 97)
            · skip
              have hbit2 : ¬ fm o.toNat / 2 ^ 2 % 2 = 1 := fun h_ => by rw [(has_bits _).2.2.1.2 h_] at hb109; cases hb109
              refine G.no rfl ?_
              refine G.skipK hK101 (fun _ _ h => h) ?_
              refine G.fit [0, 2, 4, 5, 6, 29, 30, 31] (M' := [(0, .slice A xs.length c), (2, pt p3 0), (4, pt p9 0), (5, .int .i64 1), (6, .int .i64 (n2_ : Int)), (29, .slice (some ⟨p38, 0, none⟩) 6 6), (30, .int .i64 6), (31, .int .i64 2)]) (by kernel_rfl) ?_
              exact J99 n2_ _ ⟨by unfold Mv; exact .inr ⟨hbit2, rfl⟩, H107⟩
            · skip
              have hbit2 : fm o.toNat / 2 ^ 2 % 2 = 1 := (has_bits _).2.2.1.1 hb109
              refine G.yes rfl ?_
              refine G.seqK fun K110 hK111 => ?_
              refine G.region ?_
              refine GL.run (j := 1) 1 [0, 2, 4, 5, 6, 29, 30, 31, 39] [(0, .slice A xs.length c), (2, pt p3 0), (4, pt p9 0), (5, .int .i64 1), (6, .int .i64 (n2_ : Int)), (29, .slice (some ⟨p38, 0, none⟩) 6 6), (30, .int .i64 6), (31, .int .i64 2), (39, .int .u8 97)] (by kernel_rfl) rfl ?_
              refine GL.k rfl hK111 (fun _ _ h => h) ?_
              refine G.block ?_
              refine G.seqK fun K112 hK113 => ?_
              refine G.seqK fun K114 hK115 => ?_
              refine G.region ?_
              refine GL.run (j := 2) 2 [0, 2, 4, 5, 6, 29, 30, 31, 39, 42] [(0, .slice A xs.length c), (2, pt p3 0), (4, pt p9 0), (5, .int .i64 1), (6, .int .i64 (n2_ : Int)), (29, .slice (some ⟨p38, 0, none⟩) 6 6), (30, .int .i64 6), (31, .int .i64 2), (39, .int .u8 97), (42, .bool true)] (by kernel_rfl) rfl ?_
              refine GL.k rfl hK115 (fun _ _ h => h) ?_
              refine G.yes rfl ?_
              refine G.skipK hK113 (fun _ _ h => h) ?_
              refine G.yes rfl ?_
              refine G.region ?_
              refine GL.run (j := 3) 3 [0, 2, 4, 5, 6, 29, 30, 31] [(0, .slice A xs.length c), (2, pt p3 0), (4, pt p9 0), (5, .int .i64 1), (6, .int .i64 (IntKind.i64.wrap ((n2_ : Int) + 8))), (29, .slice (some ⟨p38, 0, none⟩) 6 6), (30, .int .i64 6), (31, .int .i64 2)] (by kernel_rfl) rfl ?_
              have e116 : (IntKind.i64.wrap ((n2_ : Int) + 8)) = ((n2_ + 8 : Nat) : Int) := by rw [in_i64 (by omega)]; omega
              refine GL.eq (M' := [(0, .slice A xs.length c), (2, pt p3 0), (4, pt p9 0), (5, .int .i64 1), (6, .int .i64 ((n2_ + 8 : Nat) : Int)), (29, .slice (some ⟨p38, 0, none⟩) 6 6), (30, .int .i64 6), (31, .int .i64 2)]) (by rw [e116]) ?_
              clear e116
              refine GL.k rfl hK101 (fun _ _ h => h) ?_
              refine G.fit [0, 2, 4, 5, 6, 29, 30, 31] (M' := [(0, .slice A xs.length c), (2, pt p3 0), (4, pt p9 0), (5, .int .i64 1), (6, .int .i64 ((n2_ + 8 : Nat) : Int)), (29, .slice (some ⟨p38, 0, none⟩) 6 6), (30, .int .i64 6), (31, .int .i64 2)]) (by kernel_rfl) ?_
              exact J99 (n2_ + 8) _ ⟨by unfold Mv; exact .inl ⟨hbit2, by omega⟩, H107⟩
          · skip
            rintro n3_ w117 ⟨hi118, H119⟩
            refine G.eq (M' := [(0, .slice A xs.length c), (2, pt p3 0), (4, pt p9 0), (5, .int .i64 1), (6, .int .i64 (n3_ : Int)), (29, .slice (some ⟨p38, 0, none⟩) 6 6), (30, .int .i64 6), (31, .int .i64 2)]) rfl ?_
            have H119 : Hp w [] [.blk p3 [.int .u8 0, .int .u8 0, .int .u8 0, .int .u64 0, .int .u64 0, .int .u8 0, .int .u8 0, .int .u8 0, .int .u8 0, .int .u8 0, .int .u8 0, .int .u8 0, .int .u8 0, .int .u8 0, .int .u8 0, .int .u8 0, .int .u8 0, .int .u8 0, .int .u8 0, .int .u8 0, .int .u8 0, .int .u8 0, .int .u8 0, .int .u8 0, .int .u8 0, .bool false, .string ⟨#[]⟩] 34, .blk p9 [.int .u8 (o.toNat : Int), .int .u8 0, .int .u8 0, .int .u64 0, .int .u64 0, .int .u8 0, .int .u8 0, .int .u8 0, .int .u8 0, .int .u8 0, .int .u8 0, .int .u8 0, .int .u8 0, .int .u8 0, .int .u8 0, .int .u8 0, .int .u8 0, .int .u8 0, .int .u8 0, .int .u8 0, .int .u8 0, .int .u8 0, .int .u8 0, .int .u8 0, .int .u8 0, .bool false, .string ⟨#[]⟩] 34, .row (some ⟨p38, 0, none⟩) 6 6 5 1 (by8 ([119, 116, 97, 105, 100, 103] : List UInt8))] w117 := H119
            have hn2 := hi118
            have hnl2 := mv_up hn2
            refine G.region ?_
            refine GL.run (j := 2) 2 [0, 2, 4, 5, 6, 29, 30, 31] [(0, .slice A xs.length c), (2, pt p3 0), (4, pt p9 0), (5, .int .i64 1), (6, .int .i64 (n3_ : Int)), (29, .slice (some ⟨p38, 0, none⟩) 6 6), (30, .int .i64 6), (31, .int .i64 3)] (by kernel_rfl) rfl ?_
            refine GL.round rfl ?_
            refine G.seqK fun K120 hK121 => ?_
            refine G.region ?_
            refine GL.run (j := 1) 1 [0, 2, 4, 5, 6, 29, 30, 31, 32] [(0, .slice A xs.length c), (2, pt p3 0), (4, pt p9 0), (5, .int .i64 1), (6, .int .i64 (n3_ : Int)), (29, .slice (some ⟨p38, 0, none⟩) 6 6), (30, .int .i64 6), (31, .int .i64 3), (32, .bool true)] (by kernel_rfl) rfl ?_
            refine GL.k rfl hK121 (fun _ _ h => h) ?_
            refine G.seqK fun K122 hK123 => ?_
            refine G.yes rfl ?_
            refine G.skipK hK123 (fun _ _ h => h) ?_
            refine G.seqJ (X := Nat) (fun n4_ => [(0, .slice A xs.length c), (2, pt p3 0), (4, pt p9 0), (5, .int .i64 1), (6, .int .i64 (n4_ : Int)), (29, .slice (some ⟨p38, 0, none⟩) 6 6), (30, .int .i64 6), (31, .int .i64 3)]) (fun n4_ w_ => (Mv o 3 8 n3_ n4_) ∧ Hp w [] [.blk p3 [.int .u8 0, .int .u8 0, .int .u8 0, .int .u64 0, .int .u64 0, .int .u8 0, .int .u8 0, .int .u8 0, .int .u8 0, .int .u8 0, .int .u8 0, .int .u8 0, .int .u8 0, .int .u8 0, .int .u8 0, .int .u8 0, .int .u8 0, .int .u8 0, .int .u8 0, .int .u8 0, .int .u8 0, .int .u8 0, .int .u8 0, .int .u8 0, .int .u8 0, .bool false, .string ⟨#[]⟩] 34, .blk p9 [.int .u8 (o.toNat : Int), .int .u8 0, .int .u8 0, .int .u64 0, .int .u64 0, .int .u8 0, .int .u8 0, .int .u8 0, .int .u8 0, .int .u8 0, .int .u8 0, .int .u8 0, .int .u8 0, .int .u8 0, .int .u8 0, .int .u8 0, .int .u8 0, .int .u8 0, .int .u8 0, .int .u8 0, .int .u8 0, .int .u8 0, .int .u8 0, .int .u8 0, .int .u8 0, .bool false, .string ⟨#[]⟩] 34, .row (some ⟨p38, 0, none⟩) 6 6 5 1 (by8 ([119, 116, 97, 105, 100, 103] : List UInt8))] w_) (fun J124 K125 hK126 => ?_) ?_
            · skip
              refine G.block ?_
              refine G.seqK fun K127 hK128 => ?_
              refine G.region ?_
              refine GL.sem (j := 1) (run_idxRd (P := Try.prog) (k := .i64) (t := 26) (A := (some ⟨p38, 0, none⟩)) (len := 6) (cap := 6) (j := 3) (by kernel_rfl) rfl (H119.rdRow 2 rfl) (by rw [by8_length]; first | rfl | omega | exact (cnt_length _).symm | (simp only [List.length_cons, List.length_nil, List.length_drop, List.length_take, List.length_append] <;> omega)) (by omega)) [0, 2, 4, 5, 6, 29, 30, 31, 33] [(0, .slice A xs.length c), (2, pt p3 0), (4, pt p9 0), (5, .int .i64 1), (6, .int .i64 (n3_ : Int)), (29, .slice (some ⟨p38, 0, none⟩) 6 6), (30, .int .i64 6), (31, .int .i64 3), (33, .pointer (Option.map (fun x => Addr.add x 3) (some ⟨p38, 0, none⟩)))] (by kernel_rfl) (by kernel_rfl) rfl ?_
              refine GL.sem (j := 2) (run_ldRd (P := Try.prog) (ty := 5) (A := (some ⟨p38, 0, none⟩)) (j := 3) (v := .int .u8 105) (by kernel_rfl) (H119.rdRow 2 rfl) (rfl)) [0, 2, 4, 5, 6, 29, 30, 31, 34] [(0, .slice A xs.length c), (2, pt p3 0), (4, pt p9 0), (5, .int .i64 1), (6, .int .i64 (n3_ : Int)), (29, .slice (some ⟨p38, 0, none⟩) 6 6), (30, .int .i64 6), (31, .int .i64 3), (34, .int .u8 105)] (by kernel_rfl) (by kernel_rfl) rfl ?_
              refine GL.run (j := 3) 1 [0, 2, 4, 5, 6, 8, 29, 30, 31] [(0, .slice A xs.length c), (2, pt p3 0), (4, pt p9 0), (5, .int .i64 1), (6, .int .i64 (n3_ : Int)), (8, .int .u8 105), (29, .slice (some ⟨p38, 0, none⟩) 6 6), (30, .int .i64 6), (31, .int .i64 3)] (by kernel_rfl) rfl ?_
              refine GL.k rfl hK128 (fun _ _ h => h) ?_
              refine G.seqK fun K129 hK130 => ?_
              refine G.region ?_
              refine GL.run (j := 1) 1 [0, 2, 4, 5, 6, 8, 29, 30, 31, 35] [(0, .slice A xs.length c), (2, pt p3 0), (4, pt p9 0), (5, .int .i64 1), (6, .int .i64 (n3_ : Int)), (8, .int .u8 105), (29, .slice (some ⟨p38, 0, none⟩) 6 6), (30, .int .i64 6), (31, .int .i64 3), (35, pt p9 0)] (by kernel_rfl) rfl ?_
              refine GL.sem (j := 2) (H119.ld (o := 0) (ty := 5) (v := .int .u8 (o.toNat : Int)) 1 rfl (by kernel_rfl) rfl) [0, 2, 4, 5, 6, 8, 29, 30, 31, 36] [(0, .slice A xs.length c), (2, pt p3 0), (4, pt p9 0), (5, .int .i64 1), (6, .int .i64 (n3_ : Int)), (8, .int .u8 105), (29, .slice (some ⟨p38, 0, none⟩) 6 6), (30, .int .i64 6), (31, .int .i64 3), (36, .int .u8 (o.toNat : Int))] (by kernel_rfl) (by kernel_rfl) rfl ?_
              refine GL.run (j := 3) 1 [0, 2, 4, 5, 6, 8, 29, 30, 31, 36, 37] [(0, .slice A xs.length c), (2, pt p3 0), (4, pt p9 0), (5, .int .i64 1), (6, .int .i64 (n3_ : Int)), (8, .int .u8 105), (29, .slice (some ⟨p38, 0, none⟩) 6 6), (30, .int .i64 6), (31, .int .i64 3), (36, .int .u8 (o.toNat : Int)), (37, .int .u8 105)] (by kernel_rfl) rfl ?_
              refine GL.call (j := 4) (uses_calls o 105 w117) (by kernel_rfl) rfl (fun e_ w131 hR => ?_)
              obtain ⟨rfl, H133⟩ := hR
              have H132 : Hp w [] [.blk p3 [.int .u8 0, .int .u8 0, .int .u8 0, .int .u64 0, .int .u64 0, .int .u8 0, .int .u8 0, .int .u8 0, .int .u8 0, .int .u8 0, .int .u8 0, .int .u8 0, .int .u8 0, .int .u8 0, .int .u8 0, .int .u8 0, .int .u8 0, .int .u8 0, .int .u8 0, .int .u8 0, .int .u8 0, .int .u8 0, .int .u8 0, .int .u8 0, .int .u8 0, .bool false, .string ⟨#[]⟩] 34, .blk p9 [.int .u8 (o.toNat : Int), .int .u8 0, .int .u8 0, .int .u64 0, .int .u64 0, .int .u8 0, .int .u8 0, .int .u8 0, .int .u8 0, .int .u8 0, .int .u8 0, .int .u8 0, .int .u8 0, .int .u8 0, .int .u8 0, .int .u8 0, .int .u8 0, .int .u8 0, .int .u8 0, .int .u8 0, .int .u8 0, .int .u8 0, .int .u8 0, .int .u8 0, .int .u8 0, .bool false, .string ⟨#[]⟩] 34, .row (some ⟨p38, 0, none⟩) 6 6 5 1 (by8 ([119, 116, 97, 105, 100, 103] : List UInt8))] w131 := H119.callNil H133
              refine ⟨_, rfl, [0, 2, 4, 5, 6, 8, 29, 30, 31, 38], [(0, .slice A xs.length c), (2, pt p3 0), (4, pt p9 0), (5, .int .i64 1), (6, .int .i64 (n3_ : Int)), (8, .int .u8 105), (29, .slice (some ⟨p38, 0, none⟩) 6 6), (30, .int .i64 6), (31, .int .i64 3), (38, .bool (hasF o.toNat 105))], by kernel_rfl, ?_⟩
              refine GL.k rfl hK130 (fun _ _ h => h) ?_
              cases hb134 : (hasF o.toNat 105)
              · skip
                have hbit3 : ¬ fm o.toNat / 2 ^ 3 % 2 = 1 := fun h_ => by rw [(has_bits _).2.2.2.1.2 h_] at hb134; cases hb134
                refine G.no rfl ?_
                refine G.skipK hK126 (fun _ _ h => h) ?_
                refine G.fit [0, 2, 4, 5, 6, 29, 30, 31] (M' := [(0, .slice A xs.length c), (2, pt p3 0), (4, pt p9 0), (5, .int .i64 1), (6, .int .i64 (n3_ : Int)), (29, .slice (some ⟨p38, 0, none⟩) 6 6), (30, .int .i64 6), (31, .int .i64 3)]) (by kernel_rfl) ?_
                exact J124 n3_ _ ⟨by unfold Mv; exact .inr ⟨hbit3, rfl⟩, H132⟩
              · skip
                have hbit3 : fm o.toNat / 2 ^ 3 % 2 = 1 := (has_bits _).2.2.2.1.1 hb134
                refine G.yes rfl ?_
                refine G.seqK fun K135 hK136 => ?_
                refine G.region ?_
                refine GL.run (j := 1) 1 [0, 2, 4, 5, 6, 29, 30, 31, 39] [(0, .slice A xs.length c), (2, pt p3 0), (4, pt p9 0), (5, .int .i64 1), (6, .int .i64 (n3_ : Int)), (29, .slice (some ⟨p38, 0, none⟩) 6 6), (30, .int .i64 6), (31, .int .i64 3), (39, .int .u8 105)] (by kernel_rfl) rfl ?_
                refine GL.k rfl hK136 (fun _ _ h => h) ?_
                refine G.block ?_
                refine G.seqK fun K137 hK138 => ?_
                refine G.seqK fun K139 hK140 => ?_
                refine G.region ?_
                refine GL.run (j := 2) 2 [0, 2, 4, 5, 6, 29, 30, 31, 39, 42] [(0, .slice A xs.length c), (2, pt p3 0), (4, pt p9 0), (5, .int .i64 1), (6, .int .i64 (n3_ : Int)), (29, .slice (some ⟨p38, 0, none⟩) 6 6), (30, .int .i64 6), (31, .int .i64 3), (39, .int .u8 105), (42, .bool false)] (by kernel_rfl) rfl ?_
                refine GL.k rfl hK140 (fun _ _ h => h) ?_
                refine G.no rfl ?_
                refine G.region ?_
                refine GL.run (j := 2) 2 [0, 2, 4, 5, 6, 29, 30, 31, 39, 42] [(0, .slice A xs.length c), (2, pt p3 0), (4, pt p9 0), (5, .int .i64 1), (6, .int .i64 (n3_ : Int)), (29, .slice (some ⟨p38, 0, none⟩) 6 6), (30, .int .i64 6), (31, .int .i64 3), (39, .int .u8 105), (42, .bool true)] (by kernel_rfl) rfl ?_
                refine GL.k rfl hK138 (fun _ _ h => h) ?_
                refine G.yes rfl ?_
                refine G.region ?_
                refine GL.run (j := 3) 3 [0, 2, 4, 5, 6, 29, 30, 31] [(0, .slice A xs.length c), (2, pt p3 0), (4, pt p9 0), (5, .int .i64 1), (6, .int .i64 (IntKind.i64.wrap ((n3_ : Int) + 8))), (29, .slice (some ⟨p38, 0, none⟩) 6 6), (30, .int .i64 6), (31, .int .i64 3)] (by kernel_rfl) rfl ?_
                have e141 : (IntKind.i64.wrap ((n3_ : Int) + 8)) = ((n3_ + 8 : Nat) : Int) := by rw [in_i64 (by omega)]; omega
                refine GL.eq (M' := [(0, .slice A xs.length c), (2, pt p3 0), (4, pt p9 0), (5, .int .i64 1), (6, .int .i64 ((n3_ + 8 : Nat) : Int)), (29, .slice (some ⟨p38, 0, none⟩) 6 6), (30, .int .i64 6), (31, .int .i64 3)]) (by rw [e141]) ?_
                clear e141
                refine GL.k rfl hK126 (fun _ _ h => h) ?_
                refine G.fit [0, 2, 4, 5, 6, 29, 30, 31] (M' := [(0, .slice A xs.length c), (2, pt p3 0), (4, pt p9 0), (5, .int .i64 1), (6, .int .i64 ((n3_ + 8 : Nat) : Int)), (29, .slice (some ⟨p38, 0, none⟩) 6 6), (30, .int .i64 6), (31, .int .i64 3)]) (by kernel_rfl) ?_
                exact J124 (n3_ + 8) _ ⟨by unfold Mv; exact .inl ⟨hbit3, by omega⟩, H132⟩
            · skip
              rintro n4_ w142 ⟨hi143, H144⟩
              refine G.eq (M' := [(0, .slice A xs.length c), (2, pt p3 0), (4, pt p9 0), (5, .int .i64 1), (6, .int .i64 (n4_ : Int)), (29, .slice (some ⟨p38, 0, none⟩) 6 6), (30, .int .i64 6), (31, .int .i64 3)]) rfl ?_
              have H144 : Hp w [] [.blk p3 [.int .u8 0, .int .u8 0, .int .u8 0, .int .u64 0, .int .u64 0, .int .u8 0, .int .u8 0, .int .u8 0, .int .u8 0, .int .u8 0, .int .u8 0, .int .u8 0, .int .u8 0, .int .u8 0, .int .u8 0, .int .u8 0, .int .u8 0, .int .u8 0, .int .u8 0, .int .u8 0, .int .u8 0, .int .u8 0, .int .u8 0, .int .u8 0, .int .u8 0, .bool false, .string ⟨#[]⟩] 34, .blk p9 [.int .u8 (o.toNat : Int), .int .u8 0, .int .u8 0, .int .u64 0, .int .u64 0, .int .u8 0, .int .u8 0, .int .u8 0, .int .u8 0, .int .u8 0, .int .u8 0, .int .u8 0, .int .u8 0, .int .u8 0, .int .u8 0, .int .u8 0, .int .u8 0, .int .u8 0, .int .u8 0, .int .u8 0, .int .u8 0, .int .u8 0, .int .u8 0, .int .u8 0, .int .u8 0, .bool false, .string ⟨#[]⟩] 34, .row (some ⟨p38, 0, none⟩) 6 6 5 1 (by8 ([119, 116, 97, 105, 100, 103] : List UInt8))] w142 := H144
              have hn3 := hi143
              have hnl3 := mv_up hn3
              refine G.region ?_
              refine GL.run (j := 2) 2 [0, 2, 4, 5, 6, 29, 30, 31] [(0, .slice A xs.length c), (2, pt p3 0), (4, pt p9 0), (5, .int .i64 1), (6, .int .i64 (n4_ : Int)), (29, .slice (some ⟨p38, 0, none⟩) 6 6), (30, .int .i64 6), (31, .int .i64 4)] (by kernel_rfl) rfl ?_
              refine GL.round rfl ?_
              refine G.seqK fun K145 hK146 => ?_
              refine G.region ?_
              refine GL.run (j := 1) 1 [0, 2, 4, 5, 6, 29, 30, 31, 32] [(0, .slice A xs.length c), (2, pt p3 0), (4, pt p9 0), (5, .int .i64 1), (6, .int .i64 (n4_ : Int)), (29, .slice (some ⟨p38, 0, none⟩) 6 6), (30, .int .i64 6), (31, .int .i64 4), (32, .bool true)] (by kernel_rfl) rfl ?_
              refine GL.k rfl hK146 (fun _ _ h => h) ?_
              refine G.seqK fun K147 hK148 => ?_
              refine G.yes rfl ?_
              refine G.skipK hK148 (fun _ _ h => h) ?_
              refine G.seqJ (X := Nat) (fun n5_ => [(0, .slice A xs.length c), (2, pt p3 0), (4, pt p9 0), (5, .int .i64 1), (6, .int .i64 (n5_ : Int)), (29, .slice (some ⟨p38, 0, none⟩) 6 6), (30, .int .i64 6), (31, .int .i64 4)]) (fun n5_ w_ => (Mv o 4 20 n4_ n5_) ∧ Hp w [] [.blk p3 [.int .u8 0, .int .u8 0, .int .u8 0, .int .u64 0, .int .u64 0, .int .u8 0, .int .u8 0, .int .u8 0, .int .u8 0, .int .u8 0, .int .u8 0, .int .u8 0, .int .u8 0, .int .u8 0, .int .u8 0, .int .u8 0, .int .u8 0, .int .u8 0, .int .u8 0, .int .u8 0, .int .u8 0, .int .u8 0, .int .u8 0, .int .u8 0, .int .u8 0, .bool false, .string ⟨#[]⟩] 34, .blk p9 [.int .u8 (o.toNat : Int), .int .u8 0, .int .u8 0, .int .u64 0, .int .u64 0, .int .u8 0, .int .u8 0, .int .u8 0, .int .u8 0, .int .u8 0, .int .u8 0, .int .u8 0, .int .u8 0, .int .u8 0, .int .u8 0, .int .u8 0, .int .u8 0, .int .u8 0, .int .u8 0, .int .u8 0, .int .u8 0, .int .u8 0, .int .u8 0, .int .u8 0, .int .u8 0, .bool false, .string ⟨#[]⟩] 34, .row (some ⟨p38, 0, none⟩) 6 6 5 1 (by8 ([119, 116, 97, 105, 100, 103] : List UInt8))] w_) (fun J149 K150 hK151 => ?_) ?_
              · skip
                refine G.block ?_
                refine G.seqK fun K152 hK153 => ?_
                refine G.region ?_
                refine GL.sem (j := 1) (run_idxRd (P := Try.prog) (k := .i64) (t := 26) (A := (some ⟨p38, 0, none⟩)) (len := 6) (cap := 6) (j := 4) (by kernel_rfl) rfl (H144.rdRow 2 rfl) (by rw [by8_length]; first | rfl | omega | exact (cnt_length _).symm | (simp only [List.length_cons, List.length_nil, List.length_drop, List.length_take, List.length_append] <;> omega)) (by omega)) [0, 2, 4, 5, 6, 29, 30, 31, 33] [(0, .slice A xs.length c), (2, pt p3 0), (4, pt p9 0), (5, .int .i64 1), (6, .int .i64 (n4_ : Int)), (29, .slice (some ⟨p38, 0, none⟩) 6 6), (30, .int .i64 6), (31, .int .i64 4), (33, .pointer (Option.map (fun x => Addr.add x 4) (some ⟨p38, 0, none⟩)))] (by kernel_rfl) (by kernel_rfl) rfl ?_
                refine GL.sem (j := 2) (run_ldRd (P := Try.prog) (ty := 5) (A := (some ⟨p38, 0, none⟩)) (j := 4) (v := .int .u8 100) (by kernel_rfl) (H144.rdRow 2 rfl) (rfl)) [0, 2, 4, 5, 6, 29, 30, 31, 34] [(0, .slice A xs.length c), (2, pt p3 0), (4, pt p9 0), (5, .int .i64 1), (6, .int .i64 (n4_ : Int)), (29, .slice (some ⟨p38, 0, none⟩) 6 6), (30, .int .i64 6), (31, .int .i64 4), (34, .int .u8 100)] (by kernel_rfl) (by kernel_rfl) rfl ?_
                refine GL.run (j := 3) 1 [0, 2, 4, 5, 6, 8, 29, 30, 31] [(0, .slice A xs.length c), (2, pt p3 0), (4, pt p9 0), (5, .int .i64 1), (6, .int .i64 (n4_ : Int)), (8, .int .u8 100), (29, .slice (some ⟨p38, 0, none⟩) 6 6), (30, .int .i64 6), (31, .int .i64 4)] (by kernel_rfl) rfl ?_
                refine GL.k rfl hK153 (fun _ _ h => h) ?_
                refine G.seqK fun K154 hK155 => ?_
                refine G.region ?_
                refine GL.run (j := 1) 1 [0, 2, 4, 5, 6, 8, 29, 30, 31, 35] [(0, .slice A xs.length c), (2, pt p3 0), (4, pt p9 0), (5, .int .i64 1), (6, .int .i64 (n4_ : Int)), (8, .int .u8 100), (29, .slice (some ⟨p38, 0, none⟩) 6 6), (30, .int .i64 6), (31, .int .i64 4), (35, pt p9 0)] (by kernel_rfl) rfl ?_
                refine GL.sem (j := 2) (H144.ld (o := 0) (ty := 5) (v := .int .u8 (o.toNat : Int)) 1 rfl (by kernel_rfl) rfl) [0, 2, 4, 5, 6, 8, 29, 30, 31, 36] [(0, .slice A xs.length c), (2, pt p3 0), (4, pt p9 0), (5, .int .i64 1), (6, .int .i64 (n4_ : Int)), (8, .int .u8 100), (29, .slice (some ⟨p38, 0, none⟩) 6 6), (30, .int .i64 6), (31, .int .i64 4), (36, .int .u8 (o.toNat : Int))] (by kernel_rfl) (by kernel_rfl) rfl ?_
                refine GL.run (j := 3) 1 [0, 2, 4, 5, 6, 8, 29, 30, 31, 36, 37] [(0, .slice A xs.length c), (2, pt p3 0), (4, pt p9 0), (5, .int .i64 1), (6, .int .i64 (n4_ : Int)), (8, .int .u8 100), (29, .slice (some ⟨p38, 0, none⟩) 6 6), (30, .int .i64 6), (31, .int .i64 4), (36, .int .u8 (o.toNat : Int)), (37, .int .u8 100)] (by kernel_rfl) rfl ?_
                refine GL.call (j := 4) (uses_calls o 100 w142) (by kernel_rfl) rfl (fun e_ w156 hR => ?_)
                obtain ⟨rfl, H158⟩ := hR
                have H157 : Hp w [] [.blk p3 [.int .u8 0, .int .u8 0, .int .u8 0, .int .u64 0, .int .u64 0, .int .u8 0, .int .u8 0, .int .u8 0, .int .u8 0, .int .u8 0, .int .u8 0, .int .u8 0, .int .u8 0, .int .u8 0, .int .u8 0, .int .u8 0, .int .u8 0, .int .u8 0, .int .u8 0, .int .u8 0, .int .u8 0, .int .u8 0, .int .u8 0, .int .u8 0, .int .u8 0, .bool false, .string ⟨#[]⟩] 34, .blk p9 [.int .u8 (o.toNat : Int), .int .u8 0, .int .u8 0, .int .u64 0, .int .u64 0, .int .u8 0, .int .u8 0, .int .u8 0, .int .u8 0, .int .u8 0, .int .u8 0, .int .u8 0, .int .u8 0, .int .u8 0, .int .u8 0, .int .u8 0, .int .u8 0, .int .u8 0, .int .u8 0, .int .u8 0, .int .u8 0, .int .u8 0, .int .u8 0, .int .u8 0, .int .u8 0, .bool false, .string ⟨#[]⟩] 34, .row (some ⟨p38, 0, none⟩) 6 6 5 1 (by8 ([119, 116, 97, 105, 100, 103] : List UInt8))] w156 := H144.callNil H158
                refine ⟨_, rfl, [0, 2, 4, 5, 6, 8, 29, 30, 31, 38], [(0, .slice A xs.length c), (2, pt p3 0), (4, pt p9 0), (5, .int .i64 1), (6, .int .i64 (n4_ : Int)), (8, .int .u8 100), (29, .slice (some ⟨p38, 0, none⟩) 6 6), (30, .int .i64 6), (31, .int .i64 4), (38, .bool (hasF o.toNat 100))], by kernel_rfl, ?_⟩
                refine GL.k rfl hK155 (fun _ _ h => h) ?_
                cases hb159 : (hasF o.toNat 100)
                · skip
                  have hbit4 : ¬ fm o.toNat / 2 ^ 4 % 2 = 1 := fun h_ => by rw [(has_bits _).2.2.2.2.1.2 h_] at hb159; cases hb159
                  refine G.no rfl ?_
                  refine G.skipK hK151 (fun _ _ h => h) ?_
                  refine G.fit [0, 2, 4, 5, 6, 29, 30, 31] (M' := [(0, .slice A xs.length c), (2, pt p3 0), (4, pt p9 0), (5, .int .i64 1), (6, .int .i64 (n4_ : Int)), (29, .slice (some ⟨p38, 0, none⟩) 6 6), (30, .int .i64 6), (31, .int .i64 4)]) (by kernel_rfl) ?_
                  exact J149 n4_ _ ⟨by unfold Mv; exact .inr ⟨hbit4, rfl⟩, H157⟩
                · skip
                  have hbit4 : fm o.toNat / 2 ^ 4 % 2 = 1 := (has_bits _).2.2.2.2.1.1 hb159
                  refine G.yes rfl ?_
                  refine G.seqK fun K160 hK161 => ?_
                  refine G.region ?_
                  refine GL.run (j := 1) 1 [0, 2, 4, 5, 6, 29, 30, 31, 39] [(0, .slice A xs.length c), (2, pt p3 0), (4, pt p9 0), (5, .int .i64 1), (6, .int .i64 (n4_ : Int)), (29, .slice (some ⟨p38, 0, none⟩) 6 6), (30, .int .i64 6), (31, .int .i64 4), (39, .int .u8 100)] (by kernel_rfl) rfl ?_
                  refine GL.k rfl hK161 (fun _ _ h => h) ?_
                  refine G.block ?_
                  refine G.seqK fun K162 hK163 => ?_
                  refine G.seqK fun K164 hK165 => ?_
                  refine G.region ?_
                  refine GL.run (j := 2) 2 [0, 2, 4, 5, 6, 29, 30, 31, 39, 42] [(0, .slice A xs.length c), (2, pt p3 0), (4, pt p9 0), (5, .int .i64 1), (6, .int .i64 (n4_ : Int)), (29, .slice (some ⟨p38, 0, none⟩) 6 6), (30, .int .i64 6), (31, .int .i64 4), (39, .int .u8 100), (42, .bool false)] (by kernel_rfl) rfl ?_
                  refine GL.k rfl hK165 (fun _ _ h => h) ?_
                  refine G.no rfl ?_
                  refine G.region ?_
                  refine GL.run (j := 2) 2 [0, 2, 4, 5, 6, 29, 30, 31, 39, 42] [(0, .slice A xs.length c), (2, pt p3 0), (4, pt p9 0), (5, .int .i64 1), (6, .int .i64 (n4_ : Int)), (29, .slice (some ⟨p38, 0, none⟩) 6 6), (30, .int .i64 6), (31, .int .i64 4), (39, .int .u8 100), (42, .bool false)] (by kernel_rfl) rfl ?_
                  refine GL.k rfl hK163 (fun _ _ h => h) ?_
                  refine G.no rfl ?_
                  refine G.seqK fun K166 hK167 => ?_
                  refine G.region ?_
                  refine GL.run (j := 2) 2 [0, 2, 4, 5, 6, 29, 30, 31, 47] [(0, .slice A xs.length c), (2, pt p3 0), (4, pt p9 0), (5, .int .i64 1), (6, .int .i64 (n4_ : Int)), (29, .slice (some ⟨p38, 0, none⟩) 6 6), (30, .int .i64 6), (31, .int .i64 4), (47, .bool true)] (by kernel_rfl) rfl ?_
                  refine GL.k rfl hK167 (fun _ _ h => h) ?_
                  refine G.yes rfl ?_
                  refine G.region ?_
                  refine GL.run (j := 3) 3 [0, 2, 4, 5, 6, 29, 30, 31] [(0, .slice A xs.length c), (2, pt p3 0), (4, pt p9 0), (5, .int .i64 1), (6, .int .i64 (IntKind.i64.wrap ((n4_ : Int) + 20))), (29, .slice (some ⟨p38, 0, none⟩) 6 6), (30, .int .i64 6), (31, .int .i64 4)] (by kernel_rfl) rfl ?_
                  have e168 : (IntKind.i64.wrap ((n4_ : Int) + 20)) = ((n4_ + 20 : Nat) : Int) := by rw [in_i64 (by omega)]; omega
                  refine GL.eq (M' := [(0, .slice A xs.length c), (2, pt p3 0), (4, pt p9 0), (5, .int .i64 1), (6, .int .i64 ((n4_ + 20 : Nat) : Int)), (29, .slice (some ⟨p38, 0, none⟩) 6 6), (30, .int .i64 6), (31, .int .i64 4)]) (by rw [e168]) ?_
                  clear e168
                  refine GL.k rfl hK151 (fun _ _ h => h) ?_
                  refine G.fit [0, 2, 4, 5, 6, 29, 30, 31] (M' := [(0, .slice A xs.length c), (2, pt p3 0), (4, pt p9 0), (5, .int .i64 1), (6, .int .i64 ((n4_ + 20 : Nat) : Int)), (29, .slice (some ⟨p38, 0, none⟩) 6 6), (30, .int .i64 6), (31, .int .i64 4)]) (by kernel_rfl) ?_
                  exact J149 (n4_ + 20) _ ⟨by unfold Mv; exact .inl ⟨hbit4, by omega⟩, H157⟩
              · skip
                rintro n5_ w169 ⟨hi170, H171⟩
                refine G.eq (M' := [(0, .slice A xs.length c), (2, pt p3 0), (4, pt p9 0), (5, .int .i64 1), (6, .int .i64 (n5_ : Int)), (29, .slice (some ⟨p38, 0, none⟩) 6 6), (30, .int .i64 6), (31, .int .i64 4)]) rfl ?_
                have H171 : Hp w [] [.blk p3 [.int .u8 0, .int .u8 0, .int .u8 0, .int .u64 0, .int .u64 0, .int .u8 0, .int .u8 0, .int .u8 0, .int .u8 0, .int .u8 0, .int .u8 0, .int .u8 0, .int .u8 0, .int .u8 0, .int .u8 0, .int .u8 0, .int .u8 0, .int .u8 0, .int .u8 0, .int .u8 0, .int .u8 0, .int .u8 0, .int .u8 0, .int .u8 0, .int .u8 0, .bool false, .string ⟨#[]⟩] 34, .blk p9 [.int .u8 (o.toNat : Int), .int .u8 0, .int .u8 0, .int .u64 0, .int .u64 0, .int .u8 0, .int .u8 0, .int .u8 0, .int .u8 0, .int .u8 0, .int .u8 0, .int .u8 0, .int .u8 0, .int .u8 0, .int .u8 0, .int .u8 0, .int .u8 0, .int .u8 0, .int .u8 0, .int .u8 0, .int .u8 0, .int .u8 0, .int .u8 0, .int .u8 0, .int .u8 0, .bool false, .string ⟨#[]⟩] 34, .row (some ⟨p38, 0, none⟩) 6 6 5 1 (by8 ([119, 116, 97, 105, 100, 103] : List UInt8))] w169 := H171
                have hn4 := hi170
                have hnl4 := mv_up hn4
                refine G.region ?_
                refine GL.run (j := 2) 2 [0, 2, 4, 5, 6, 29, 30, 31] [(0, .slice A xs.length c), (2, pt p3 0), (4, pt p9 0), (5, .int .i64 1), (6, .int .i64 (n5_ : Int)), (29, .slice (some ⟨p38, 0, none⟩) 6 6), (30, .int .i64 6), (31, .int .i64 5)] (by kernel_rfl) rfl ?_
                refine GL.round rfl ?_
                refine G.seqK fun K172 hK173 => ?_
                refine G.region ?_
                refine GL.run (j := 1) 1 [0, 2, 4, 5, 6, 29, 30, 31, 32] [(0, .slice A xs.length c), (2, pt p3 0), (4, pt p9 0), (5, .int .i64 1), (6, .int .i64 (n5_ : Int)), (29, .slice (some ⟨p38, 0, none⟩) 6 6), (30, .int .i64 6), (31, .int .i64 5), (32, .bool true)] (by kernel_rfl) rfl ?_
                refine GL.k rfl hK173 (fun _ _ h => h) ?_
                refine G.seqK fun K174 hK175 => ?_
                refine G.yes rfl ?_
                refine G.skipK hK175 (fun _ _ h => h) ?_
                refine G.seqJ (X := Nat) (fun n6_ => [(0, .slice A xs.length c), (2, pt p3 0), (4, pt p9 0), (5, .int .i64 1), (6, .int .i64 (n6_ : Int)), (29, .slice (some ⟨p38, 0, none⟩) 6 6), (30, .int .i64 6), (31, .int .i64 5)]) (fun n6_ w_ => (Mv o 5 1 n5_ n6_) ∧ Hp w [] [.blk p3 [.int .u8 0, .int .u8 0, .int .u8 0, .int .u64 0, .int .u64 0, .int .u8 0, .int .u8 0, .int .u8 0, .int .u8 0, .int .u8 0, .int .u8 0, .int .u8 0, .int .u8 0, .int .u8 0, .int .u8 0, .int .u8 0, .int .u8 0, .int .u8 0, .int .u8 0, .int .u8 0, .int .u8 0, .int .u8 0, .int .u8 0, .int .u8 0, .int .u8 0, .bool false, .string ⟨#[]⟩] 34, .blk p9 [.int .u8 (o.toNat : Int), .int .u8 0, .int .u8 0, .int .u64 0, .int .u64 0, .int .u8 0, .int .u8 0, .int .u8 0, .int .u8 0, .int .u8 0, .int .u8 0, .int .u8 0, .int .u8 0, .int .u8 0, .int .u8 0, .int .u8 0, .int .u8 0, .int .u8 0, .int .u8 0, .int .u8 0, .int .u8 0, .int .u8 0, .int .u8 0, .int .u8 0, .int .u8 0, .bool false, .string ⟨#[]⟩] 34, .row (some ⟨p38, 0, none⟩) 6 6 5 1 (by8 ([119, 116, 97, 105, 100, 103] : List UInt8))] w_) (fun J176 K177 hK178 => ?_) ?_
                · skip
                  refine G.block ?_
                  refine G.seqK fun K179 hK180 => ?_
                  refine G.region ?_
                  refine GL.sem (j := 1) (run_idxRd (P := Try.prog) (k := .i64) (t := 26) (A := (some ⟨p38, 0, none⟩)) (len := 6) (cap := 6) (j := 5) (by kernel_rfl) rfl (H171.rdRow 2 rfl) (by rw [by8_length]; first | rfl | omega | exact (cnt_length _).symm | (simp only [List.length_cons, List.length_nil, List.length_drop, List.length_take, List.length_append] <;> omega)) (by omega)) [0, 2, 4, 5, 6, 29, 30, 31, 33] [(0, .slice A xs.length c), (2, pt p3 0), (4, pt p9 0), (5, .int .i64 1), (6, .int .i64 (n5_ : Int)), (29, .slice (some ⟨p38, 0, none⟩) 6 6), (30, .int .i64 6), (31, .int .i64 5), (33, .pointer (Option.map (fun x => Addr.add x 5) (some ⟨p38, 0, none⟩)))] (by kernel_rfl) (by kernel_rfl) rfl ?_
                  refine GL.sem (j := 2) (run_ldRd (P := Try.prog) (ty := 5) (A := (some ⟨p38, 0, none⟩)) (j := 5) (v := .int .u8 103) (by kernel_rfl) (H171.rdRow 2 rfl) (rfl)) [0, 2, 4, 5, 6, 29, 30, 31, 34] [(0, .slice A xs.length c), (2, pt p3 0), (4, pt p9 0), (5, .int .i64 1), (6, .int .i64 (n5_ : Int)), (29, .slice (some ⟨p38, 0, none⟩) 6 6), (30, .int .i64 6), (31, .int .i64 5), (34, .int .u8 103)] (by kernel_rfl) (by kernel_rfl) rfl ?_
                  refine GL.run (j := 3) 1 [0, 2, 4, 5, 6, 8, 29, 30, 31] [(0, .slice A xs.length c), (2, pt p3 0), (4, pt p9 0), (5, .int .i64 1), (6, .int .i64 (n5_ : Int)), (8, .int .u8 103), (29, .slice (some ⟨p38, 0, none⟩) 6 6), (30, .int .i64 6), (31, .int .i64 5)] (by kernel_rfl) rfl ?_
                  refine GL.k rfl hK180 (fun _ _ h => h) ?_
                  refine G.seqK fun K181 hK182 => ?_
                  refine G.region ?_
                  refine GL.run (j := 1) 1 [0, 2, 4, 5, 6, 8, 29, 30, 31, 35] [(0, .slice A xs.length c), (2, pt p3 0), (4, pt p9 0), (5, .int .i64 1), (6, .int .i64 (n5_ : Int)), (8, .int .u8 103), (29, .slice (some ⟨p38, 0, none⟩) 6 6), (30, .int .i64 6), (31, .int .i64 5), (35, pt p9 0)] (by kernel_rfl) rfl ?_
                  refine GL.sem (j := 2) (H171.ld (o := 0) (ty := 5) (v := .int .u8 (o.toNat : Int)) 1 rfl (by kernel_rfl) rfl) [0, 2, 4, 5, 6, 8, 29, 30, 31, 36] [(0, .slice A xs.length c), (2, pt p3 0), (4, pt p9 0), (5, .int .i64 1), (6, .int .i64 (n5_ : Int)), (8, .int .u8 103), (29, .slice (some ⟨p38, 0, none⟩) 6 6), (30, .int .i64 6), (31, .int .i64 5), (36, .int .u8 (o.toNat : Int))] (by kernel_rfl) (by kernel_rfl) rfl ?_
                  refine GL.run (j := 3) 1 [0, 2, 4, 5, 6, 8, 29, 30, 31, 36, 37] [(0, .slice A xs.length c), (2, pt p3 0), (4, pt p9 0), (5, .int .i64 1), (6, .int .i64 (n5_ : Int)), (8, .int .u8 103), (29, .slice (some ⟨p38, 0, none⟩) 6 6), (30, .int .i64 6), (31, .int .i64 5), (36, .int .u8 (o.toNat : Int)), (37, .int .u8 103)] (by kernel_rfl) rfl ?_
                  refine GL.call (j := 4) (uses_calls o 103 w169) (by kernel_rfl) rfl (fun e_ w183 hR => ?_)
                  obtain ⟨rfl, H185⟩ := hR
                  have H184 : Hp w [] [.blk p3 [.int .u8 0, .int .u8 0, .int .u8 0, .int .u64 0, .int .u64 0, .int .u8 0, .int .u8 0, .int .u8 0, .int .u8 0, .int .u8 0, .int .u8 0, .int .u8 0, .int .u8 0, .int .u8 0, .int .u8 0, .int .u8 0, .int .u8 0, .int .u8 0, .int .u8 0, .int .u8 0, .int .u8 0, .int .u8 0, .int .u8 0, .int .u8 0, .int .u8 0, .bool false, .string ⟨#[]⟩] 34, .blk p9 [.int .u8 (o.toNat : Int), .int .u8 0, .int .u8 0, .int .u64 0, .int .u64 0, .int .u8 0, .int .u8 0, .int .u8 0, .int .u8 0, .int .u8 0, .int .u8 0, .int .u8 0, .int .u8 0, .int .u8 0, .int .u8 0, .int .u8 0, .int .u8 0, .int .u8 0, .int .u8 0, .int .u8 0, .int .u8 0, .int .u8 0, .int .u8 0, .int .u8 0, .int .u8 0, .bool false, .string ⟨#[]⟩] 34, .row (some ⟨p38, 0, none⟩) 6 6 5 1 (by8 ([119, 116, 97, 105, 100, 103] : List UInt8))] w183 := H171.callNil H185
                  refine ⟨_, rfl, [0, 2, 4, 5, 6, 8, 29, 30, 31, 38], [(0, .slice A xs.length c), (2, pt p3 0), (4, pt p9 0), (5, .int .i64 1), (6, .int .i64 (n5_ : Int)), (8, .int .u8 103), (29, .slice (some ⟨p38, 0, none⟩) 6 6), (30, .int .i64 6), (31, .int .i64 5), (38, .bool (hasF o.toNat 103))], by kernel_rfl, ?_⟩
                  refine GL.k rfl hK182 (fun _ _ h => h) ?_
                  cases hb186 : (hasF o.toNat 103)
                  · skip
                    have hbit5 : ¬ fm o.toNat / 2 ^ 5 % 2 = 1 := fun h_ => by rw [(has_bits _).2.2.2.2.2.1.2 h_] at hb186; cases hb186
                    refine G.no rfl ?_
                    refine G.skipK hK178 (fun _ _ h => h) ?_
                    refine G.fit [0, 2, 4, 5, 6, 29, 30, 31] (M' := [(0, .slice A xs.length c), (2, pt p3 0), (4, pt p9 0), (5, .int .i64 1), (6, .int .i64 (n5_ : Int)), (29, .slice (some ⟨p38, 0, none⟩) 6 6), (30, .int .i64 6), (31, .int .i64 5)]) (by kernel_rfl) ?_
                    exact J176 n5_ _ ⟨by unfold Mv; exact .inr ⟨hbit5, rfl⟩, H184⟩
                  · skip
                    have hbit5 : fm o.toNat / 2 ^ 5 % 2 = 1 := (has_bits _).2.2.2.2.2.1.1 hb186
                    refine G.yes rfl ?_
                    refine G.seqK fun K187 hK188 => ?_
                    refine G.region ?_
                    refine GL.run (j := 1) 1 [0, 2, 4, 5, 6, 29, 30, 31, 39] [(0, .slice A xs.length c), (2, pt p3 0), (4, pt p9 0), (5, .int .i64 1), (6, .int .i64 (n5_ : Int)), (29, .slice (some ⟨p38, 0, none⟩) 6 6), (30, .int .i64 6), (31, .int .i64 5), (39, .int .u8 103)] (by kernel_rfl) rfl ?_
                    refine GL.k rfl hK188 (fun _ _ h => h) ?_
                    refine G.block ?_
                    refine G.seqK fun K189 hK190 => ?_
                    refine G.seqK fun K191 hK192 => ?_
                    refine G.region ?_
                    refine GL.run (j := 2) 2 [0, 2, 4, 5, 6, 29, 30, 31, 39, 42] [(0, .slice A xs.length c), (2, pt p3 0), (4, pt p9 0), (5, .int .i64 1), (6, .int .i64 (n5_ : Int)), (29, .slice (some ⟨p38, 0, none⟩) 6 6), (30, .int .i64 6), (31, .int .i64 5), (39, .int .u8 103), (42, .bool false)] (by kernel_rfl) rfl ?_
                    refine GL.k rfl hK192 (fun _ _ h => h) ?_
                    refine G.no rfl ?_
                    refine G.region ?_
                    refine GL.run (j := 2) 2 [0, 2, 4, 5, 6, 29, 30, 31, 39, 42] [(0, .slice A xs.length c), (2, pt p3 0), (4, pt p9 0), (5, .int .i64 1), (6, .int .i64 (n5_ : Int)), (29, .slice (some ⟨p38, 0, none⟩) 6 6), (30, .int .i64 6), (31, .int .i64 5), (39, .int .u8 103), (42, .bool false)] (by kernel_rfl) rfl ?_
                    refine GL.k rfl hK190 (fun _ _ h => h) ?_
                    refine G.no rfl ?_
                    refine G.seqK fun K193 hK194 => ?_
                    refine G.region ?_
                    refine GL.run (j := 2) 2 [0, 2, 4, 5, 6, 29, 30, 31, 47] [(0, .slice A xs.length c), (2, pt p3 0), (4, pt p9 0), (5, .int .i64 1), (6, .int .i64 (n5_ : Int)), (29, .slice (some ⟨p38, 0, none⟩) 6 6), (30, .int .i64 6), (31, .int .i64 5), (47, .bool false)] (by kernel_rfl) rfl ?_
                    refine GL.k rfl hK194 (fun _ _ h => h) ?_
                    refine G.no rfl ?_
                    refine G.region ?_
                    refine GL.run (j := 3) 3 [0, 2, 4, 5, 6, 29, 30, 31] [(0, .slice A xs.length c), (2, pt p3 0), (4, pt p9 0), (5, .int .i64 1), (6, .int .i64 (IntKind.i64.wrap ((n5_ : Int) + 1))), (29, .slice (some ⟨p38, 0, none⟩) 6 6), (30, .int .i64 6), (31, .int .i64 5)] (by kernel_rfl) rfl ?_
                    have e195 : (IntKind.i64.wrap ((n5_ : Int) + 1)) = ((n5_ + 1 : Nat) : Int) := by rw [in_i64 (by omega)]; omega
                    refine GL.eq (M' := [(0, .slice A xs.length c), (2, pt p3 0), (4, pt p9 0), (5, .int .i64 1), (6, .int .i64 ((n5_ + 1 : Nat) : Int)), (29, .slice (some ⟨p38, 0, none⟩) 6 6), (30, .int .i64 6), (31, .int .i64 5)]) (by rw [e195]) ?_
                    clear e195
                    refine GL.k rfl hK178 (fun _ _ h => h) ?_
                    refine G.fit [0, 2, 4, 5, 6, 29, 30, 31] (M' := [(0, .slice A xs.length c), (2, pt p3 0), (4, pt p9 0), (5, .int .i64 1), (6, .int .i64 ((n5_ + 1 : Nat) : Int)), (29, .slice (some ⟨p38, 0, none⟩) 6 6), (30, .int .i64 6), (31, .int .i64 5)]) (by kernel_rfl) ?_
                    exact J176 (n5_ + 1) _ ⟨by unfold Mv; exact .inl ⟨hbit5, by omega⟩, H184⟩
                · skip
                  rintro n6_ w196 ⟨hi197, H198⟩
                  refine G.eq (M' := [(0, .slice A xs.length c), (2, pt p3 0), (4, pt p9 0), (5, .int .i64 1), (6, .int .i64 (n6_ : Int)), (29, .slice (some ⟨p38, 0, none⟩) 6 6), (30, .int .i64 6), (31, .int .i64 5)]) rfl ?_
                  have H198 : Hp w [] [.blk p3 [.int .u8 0, .int .u8 0, .int .u8 0, .int .u64 0, .int .u64 0, .int .u8 0, .int .u8 0, .int .u8 0, .int .u8 0, .int .u8 0, .int .u8 0, .int .u8 0, .int .u8 0, .int .u8 0, .int .u8 0, .int .u8 0, .int .u8 0, .int .u8 0, .int .u8 0, .int .u8 0, .int .u8 0, .int .u8 0, .int .u8 0, .int .u8 0, .int .u8 0, .bool false, .string ⟨#[]⟩] 34, .blk p9 [.int .u8 (o.toNat : Int), .int .u8 0, .int .u8 0, .int .u64 0, .int .u64 0, .int .u8 0, .int .u8 0, .int .u8 0, .int .u8 0, .int .u8 0, .int .u8 0, .int .u8 0, .int .u8 0, .int .u8 0, .int .u8 0, .int .u8 0, .int .u8 0, .int .u8 0, .int .u8 0, .int .u8 0, .int .u8 0, .int .u8 0, .int .u8 0, .int .u8 0, .int .u8 0, .bool false, .string ⟨#[]⟩] 34, .row (some ⟨p38, 0, none⟩) 6 6 5 1 (by8 ([119, 116, 97, 105, 100, 103] : List UInt8))] w196 := H198
                  have hn5 := hi197
                  have hnl5 := mv_up hn5
                  refine G.region ?_
                  refine GL.run (j := 2) 2 [0, 2, 4, 5, 6, 29, 30, 31] [(0, .slice A xs.length c), (2, pt p3 0), (4, pt p9 0), (5, .int .i64 1), (6, .int .i64 (n6_ : Int)), (29, .slice (some ⟨p38, 0, none⟩) 6 6), (30, .int .i64 6), (31, .int .i64 6)] (by kernel_rfl) rfl ?_
                  refine GL.round rfl ?_
                  refine G.seqK fun K199 hK200 => ?_
                  refine G.region ?_
                  refine GL.run (j := 1) 1 [0, 2, 4, 5, 6, 29, 30, 31, 32] [(0, .slice A xs.length c), (2, pt p3 0), (4, pt p9 0), (5, .int .i64 1), (6, .int .i64 (n6_ : Int)), (29, .slice (some ⟨p38, 0, none⟩) 6 6), (30, .int .i64 6), (31, .int .i64 6), (32, .bool false)] (by kernel_rfl) rfl ?_
                  refine GL.k rfl hK200 (fun _ _ h => h) ?_
                  refine G.seqK fun K201 hK202 => ?_
                  refine G.no rfl ?_
                  refine G.exitK hK35 (fun _ _ h => h) ?_
                  refine G.seqK fun K203 hK204 => ?_
                  refine G.seqK fun K205 hK206 => ?_
                  refine G.region ?_
                  refine GL.run (j := 5) 5 [0, 2, 4, 5, 56] [(0, .slice A xs.length c), (2, pt p3 0), (4, pt p9 0), (5, .int .i64 1), (56, .bool (decide ((xs.length : Int) < (IntKind.i64.wrap (1 + (n6_ : Int))))))] (by kernel_rfl) rfl ?_
                  have e207 : (IntKind.i64.wrap (1 + (n6_ : Int))) = ((1 + n6_ : Nat) : Int) := by rw [in_i64 (by omega)]; omega
                  refine GL.eq (M' := [(0, .slice A xs.length c), (2, pt p3 0), (4, pt p9 0), (5, .int .i64 1), (56, .bool (decide ((xs.length : Int) < ((1 + n6_ : Nat) : Int))))]) (by rw [e207]) ?_
                  clear e207
                  refine GL.k rfl hK206 (fun _ _ h => h) ?_
                  cases hb208 : (decide ((xs.length : Int) < ((1 + n6_ : Nat) : Int)))
                  · skip
                    have hb208f := of_decide_eq_false hb208
                    have hn9 : 1 + n6_ ≤ xs.length := by omega
                    refine G.no rfl ?_
                    refine G.skipK hK204 (fun _ _ h => h) ?_
                    have hb_all : ∀ k, bitP o k ∨ ¬ bitP o k := fun k => Decidable.em _
                    refine G.seqJ (X := UInt8 × Nat) (fun ⟨wh, a1_⟩ => [(0, .slice A xs.length c), (2, pt p3 0), (4, pt p9 0), (5, .int .i64 (a1_ : Int))]) (fun ⟨wh, a1_⟩ w_ => (Mv o 0 1 1 a1_ ∧ (bitP o 0 → wh = xs.getD 1 0) ∧ (¬ bitP o 0 → wh = 0)) ∧ Hp w [] [.blk p3 [.int .u8 0, .int .u8 0, .int .u8 0, .int .u64 0, .int .u64 0, .int .u8 0, .int .u8 0, .int .u8 0, .int .u8 0, .int .u8 0, .int .u8 0, .int .u8 0, .int .u8 0, .int .u8 0, .int .u8 0, .int .u8 0, .int .u8 0, .int .u8 0, .int .u8 0, .int .u8 0, .int .u8 0, .int .u8 0, .int .u8 0, .int .u8 0, .int .u8 0, .bool false, .string ⟨#[]⟩] 34, .blk p9 [.int .u8 (o.toNat : Int), .int .u8 (wh.toNat : Int), .int .u8 0, .int .u64 0, .int .u64 0, .int .u8 0, .int .u8 0, .int .u8 0, .int .u8 0, .int .u8 0, .int .u8 0, .int .u8 0, .int .u8 0, .int .u8 0, .int .u8 0, .int .u8 0, .int .u8 0, .int .u8 0, .int .u8 0, .int .u8 0, .int .u8 0, .int .u8 0, .int .u8 0, .int .u8 0, .int .u8 0, .bool false, .string ⟨#[]⟩] 34, .row (some ⟨p38, 0, none⟩) 6 6 5 1 (by8 ([119, 116, 97, 105, 100, 103] : List UInt8))] w_) (fun J209 K210 hK211 => ?_) ?_
                    · skip
                      refine G.seqK fun K212 hK213 => ?_
                      refine G.region ?_
                      refine GL.run (j := 1) 1 [0, 2, 4, 5, 58] [(0, .slice A xs.length c), (2, pt p3 0), (4, pt p9 0), (5, .int .i64 1), (58, pt p9 0)] (by kernel_rfl) rfl ?_
                      refine GL.sem (j := 2) (H198.ld (o := 0) (ty := 5) (v := .int .u8 (o.toNat : Int)) 1 rfl (by kernel_rfl) rfl) [0, 2, 4, 5, 59] [(0, .slice A xs.length c), (2, pt p3 0), (4, pt p9 0), (5, .int .i64 1), (59, .int .u8 (o.toNat : Int))] (by kernel_rfl) (by kernel_rfl) rfl ?_
                      refine GL.call (j := 3) (uses_calls o 119 w196) (by kernel_rfl) rfl (fun e_ w214 hR => ?_)
                      obtain ⟨rfl, H216⟩ := hR
                      have H215 : Hp w [] [.blk p3 [.int .u8 0, .int .u8 0, .int .u8 0, .int .u64 0, .int .u64 0, .int .u8 0, .int .u8 0, .int .u8 0, .int .u8 0, .int .u8 0, .int .u8 0, .int .u8 0, .int .u8 0, .int .u8 0, .int .u8 0, .int .u8 0, .int .u8 0, .int .u8 0, .int .u8 0, .int .u8 0, .int .u8 0, .int .u8 0, .int .u8 0, .int .u8 0, .int .u8 0, .bool false, .string ⟨#[]⟩] 34, .blk p9 [.int .u8 (o.toNat : Int), .int .u8 0, .int .u8 0, .int .u64 0, .int .u64 0, .int .u8 0, .int .u8 0, .int .u8 0, .int .u8 0, .int .u8 0, .int .u8 0, .int .u8 0, .int .u8 0, .int .u8 0, .int .u8 0, .int .u8 0, .int .u8 0, .int .u8 0, .int .u8 0, .int .u8 0, .int .u8 0, .int .u8 0, .int .u8 0, .int .u8 0, .int .u8 0, .bool false, .string ⟨#[]⟩] 34, .row (some ⟨p38, 0, none⟩) 6 6 5 1 (by8 ([119, 116, 97, 105, 100, 103] : List UInt8))] w214 := H198.callNil H216
                      refine ⟨_, rfl, [0, 2, 4, 5, 60], [(0, .slice A xs.length c), (2, pt p3 0), (4, pt p9 0), (5, .int .i64 1), (60, .bool (hasF o.toNat 119))], by kernel_rfl, ?_⟩
                      refine GL.k rfl hK213 (fun _ _ h => h) ?_
                      cases hb217 : (hasF o.toNat 119)
                      · skip
                        have hbit0 : ¬ fm o.toNat / 2 ^ 0 % 2 = 1 := fun h_ => by rw [(has_bits _).1.2 h_] at hb217; cases hb217
                        refine G.no rfl ?_
                        refine G.skipK hK211 (fun _ _ h => h) ?_
                        have H219 : Hp w [] [.blk p3 [.int .u8 0, .int .u8 0, .int .u8 0, .int .u64 0, .int .u64 0, .int .u8 0, .int .u8 0, .int .u8 0, .int .u8 0, .int .u8 0, .int .u8 0, .int .u8 0, .int .u8 0, .int .u8 0, .int .u8 0, .int .u8 0, .int .u8 0, .int .u8 0, .int .u8 0, .int .u8 0, .int .u8 0, .int .u8 0, .int .u8 0, .int .u8 0, .int .u8 0, .bool false, .string ⟨#[]⟩] 34, .blk p9 [.int .u8 (o.toNat : Int), .int .u8 ((0 : UInt8).toNat : Int), .int .u8 0, .int .u64 0, .int .u64 0, .int .u8 0, .int .u8 0, .int .u8 0, .int .u8 0, .int .u8 0, .int .u8 0, .int .u8 0, .int .u8 0, .int .u8 0, .int .u8 0, .int .u8 0, .int .u8 0, .int .u8 0, .int .u8 0, .int .u8 0, .int .u8 0, .int .u8 0, .int .u8 0, .int .u8 0, .int .u8 0, .bool false, .string ⟨#[]⟩] 34, .row (some ⟨p38, 0, none⟩) 6 6 5 1 (by8 ([119, 116, 97, 105, 100, 103] : List UInt8))] w214 := H215
                        refine G.fit [0, 2, 4, 5] (M' := [(0, .slice A xs.length c), (2, pt p3 0), (4, pt p9 0), (5, .int .i64 1)]) (by kernel_rfl) ?_
                        exact J209 ⟨(0 : UInt8), 1⟩ _ ⟨⟨.inr ⟨hbit0, rfl⟩, fun h_ => absurd h_ hbit0, fun _ => rfl⟩, H219⟩
                      · skip
                        have hbit0 : fm o.toNat / 2 ^ 0 % 2 = 1 := (has_bits _).1.1 hb217
                        have hns0 := mv_yes hn0 hbit0
                        refine G.yes rfl ?_
                        refine G.seqK fun K220 hK221 => ?_
                        refine G.region ?_
                        refine GL.run (j := 2) 2 [0, 2, 4, 5, 61, 62] [(0, .slice A xs.length c), (2, pt p3 0), (4, pt p9 0), (5, .int .i64 1), (61, .slice A xs.length c), (62, .int .i64 1)] (by kernel_rfl) rfl ?_
                        refine GL.sem (j := 3) (run_idxRd (P := Try.prog) (k := .i64) (t := 26) (A := A) (len := xs.length) (cap := c) (j := 1) (by kernel_rfl) rfl (hx.hp H215) (by rw [by8_length]) (by first | rfl | omega | exact (cnt_length _).symm | (simp only [List.length_cons, List.length_nil, List.length_drop, List.length_take, List.length_append] <;> omega))) [0, 2, 4, 5, 63] [(0, .slice A xs.length c), (2, pt p3 0), (4, pt p9 0), (5, .int .i64 1), (63, .pointer (Option.map (fun x => Addr.add x 1) A))] (by kernel_rfl) (by kernel_rfl) rfl ?_
                        refine GL.sem (j := 4) (run_ldRd (P := Try.prog) (ty := 5) (A := A) (j := 1) (v := .int .u8 ((xs.getD 1 0).toNat : Int)) (by kernel_rfl) (hx.hp H215) (by8_at (getD8 (by omega)))) [0, 2, 4, 5, 64] [(0, .slice A xs.length c), (2, pt p3 0), (4, pt p9 0), (5, .int .i64 1), (64, .int .u8 ((xs.getD 1 0).toNat : Int))] (by kernel_rfl) (by kernel_rfl) rfl ?_
                        refine GL.run (j := 5) 1 [0, 2, 4, 5, 64, 65] [(0, .slice A xs.length c), (2, pt p3 0), (4, pt p9 0), (5, .int .i64 1), (64, .int .u8 ((xs.getD 1 0).toNat : Int)), (65, pt p9 1)] (by kernel_rfl) rfl ?_
                        obtain ⟨w222, r223, H224⟩ := H215.st (P := Try.prog) (o := 1) (ty := 5) (v := .int .u8 ((xs.getD 1 0).toNat : Int)) 1 rfl (by kernel_rfl) (by simp) rfl
                        have H224 : Hp w [] [.blk p3 [.int .u8 0, .int .u8 0, .int .u8 0, .int .u64 0, .int .u64 0, .int .u8 0, .int .u8 0, .int .u8 0, .int .u8 0, .int .u8 0, .int .u8 0, .int .u8 0, .int .u8 0, .int .u8 0, .int .u8 0, .int .u8 0, .int .u8 0, .int .u8 0, .int .u8 0, .int .u8 0, .int .u8 0, .int .u8 0, .int .u8 0, .int .u8 0, .int .u8 0, .bool false, .string ⟨#[]⟩] 34, .blk p9 [.int .u8 (o.toNat : Int), .int .u8 ((xs.getD 1 0).toNat : Int), .int .u8 0, .int .u64 0, .int .u64 0, .int .u8 0, .int .u8 0, .int .u8 0, .int .u8 0, .int .u8 0, .int .u8 0, .int .u8 0, .int .u8 0, .int .u8 0, .int .u8 0, .int .u8 0, .int .u8 0, .int .u8 0, .int .u8 0, .int .u8 0, .int .u8 0, .int .u8 0, .int .u8 0, .int .u8 0, .int .u8 0, .bool false, .string ⟨#[]⟩] 34, .row (some ⟨p38, 0, none⟩) 6 6 5 1 (by8 ([119, 116, 97, 105, 100, 103] : List UInt8))] w222 := H224
                        refine GL.semU (j := 6) r223 [0, 2, 4, 5] [(0, .slice A xs.length c), (2, pt p3 0), (4, pt p9 0), (5, .int .i64 1)] (by kernel_rfl) rfl rfl rfl ?_
                        refine GL.k rfl hK221 (fun _ _ h => h) ?_
                        refine G.region ?_
                        refine GL.run (j := 3) 3 [0, 2, 4, 5] [(0, .slice A xs.length c), (2, pt p3 0), (4, pt p9 0), (5, .int .i64 2)] (by kernel_rfl) rfl ?_
                        refine GL.k rfl hK211 (fun _ _ h => h) ?_
                        have H226 : Hp w [] [.blk p3 [.int .u8 0, .int .u8 0, .int .u8 0, .int .u64 0, .int .u64 0, .int .u8 0, .int .u8 0, .int .u8 0, .int .u8 0, .int .u8 0, .int .u8 0, .int .u8 0, .int .u8 0, .int .u8 0, .int .u8 0, .int .u8 0, .int .u8 0, .int .u8 0, .int .u8 0, .int .u8 0, .int .u8 0, .int .u8 0, .int .u8 0, .int .u8 0, .int .u8 0, .bool false, .string ⟨#[]⟩] 34, .blk p9 [.int .u8 (o.toNat : Int), .int .u8 ((xs.getD 1 0).toNat : Int), .int .u8 0, .int .u64 0, .int .u64 0, .int .u8 0, .int .u8 0, .int .u8 0, .int .u8 0, .int .u8 0, .int .u8 0, .int .u8 0, .int .u8 0, .int .u8 0, .int .u8 0, .int .u8 0, .int .u8 0, .int .u8 0, .int .u8 0, .int .u8 0, .int .u8 0, .int .u8 0, .int .u8 0, .int .u8 0, .int .u8 0, .bool false, .string ⟨#[]⟩] 34, .row (some ⟨p38, 0, none⟩) 6 6 5 1 (by8 ([119, 116, 97, 105, 100, 103] : List UInt8))] w222 := H224
                        refine G.fit [0, 2, 4, 5] (M' := [(0, .slice A xs.length c), (2, pt p3 0), (4, pt p9 0), (5, .int .i64 2)]) (by kernel_rfl) ?_
                        exact J209 ⟨(xs.getD 1 0), 2⟩ _ ⟨⟨.inl ⟨hbit0, by omega⟩, fun _ => rfl, fun h_ => absurd hbit0 h_⟩, H226⟩
                    · skip
                      rintro ⟨wh, a1_⟩ w227 ⟨hi228, H229⟩
                      refine G.eq (M' := [(0, .slice A xs.length c), (2, pt p3 0), (4, pt p9 0), (5, .int .i64 (a1_ : Int))]) rfl ?_
                      have H229 : Hp w [] [.blk p3 [.int .u8 0, .int .u8 0, .int .u8 0, .int .u64 0, .int .u64 0, .int .u8 0, .int .u8 0, .int .u8 0, .int .u8 0, .int .u8 0, .int .u8 0, .int .u8 0, .int .u8 0, .int .u8 0, .int .u8 0, .int .u8 0, .int .u8 0, .int .u8 0, .int .u8 0, .int .u8 0, .int .u8 0, .int .u8 0, .int .u8 0, .int .u8 0, .int .u8 0, .bool false, .string ⟨#[]⟩] 34, .blk p9 [.int .u8 (o.toNat : Int), .int .u8 (wh.toNat : Int), .int .u8 0, .int .u64 0, .int .u64 0, .int .u8 0, .int .u8 0, .int .u8 0, .int .u8 0, .int .u8 0, .int .u8 0, .int .u8 0, .int .u8 0, .int .u8 0, .int .u8 0, .int .u8 0, .int .u8 0, .int .u8 0, .int .u8 0, .int .u8 0, .int .u8 0, .int .u8 0, .int .u8 0, .int .u8 0, .int .u8 0, .bool false, .string ⟨#[]⟩] 34, .row (some ⟨p38, 0, none⟩) 6 6 5 1 (by8 ([119, 116, 97, 105, 100, 103] : List UInt8))] w227 := H229
                      have hm0 := hi228
                      have hq0 : a1_ = 1 + n1_ := mv_same hn0 hm0.1 rfl
                      refine G.seqJ (X := UInt8 × Nat) (fun ⟨t, a2_⟩ => [(0, .slice A xs.length c), (2, pt p3 0), (4, pt p9 0), (5, .int .i64 (a2_ : Int))]) (fun ⟨t, a2_⟩ w_ => (Mv o 1 1 a1_ a2_ ∧ (bitP o 1 → t = xs.getD a1_ 0) ∧ (¬ bitP o 1 → t = 0)) ∧ Hp w [] [.blk p3 [.int .u8 0, .int .u8 0, .int .u8 0, .int .u64 0, .int .u64 0, .int .u8 0, .int .u8 0, .int .u8 0, .int .u8 0, .int .u8 0, .int .u8 0, .int .u8 0, .int .u8 0, .int .u8 0, .int .u8 0, .int .u8 0, .int .u8 0, .int .u8 0, .int .u8 0, .int .u8 0, .int .u8 0, .int .u8 0, .int .u8 0, .int .u8 0, .int .u8 0, .bool false, .string ⟨#[]⟩] 34, .blk p9 [.int .u8 (o.toNat : Int), .int .u8 (wh.toNat : Int), .int .u8 (t.toNat : Int), .int .u64 0, .int .u64 0, .int .u8 0, .int .u8 0, .int .u8 0, .int .u8 0, .int .u8 0, .int .u8 0, .int .u8 0, .int .u8 0, .int .u8 0, .int .u8 0, .int .u8 0, .int .u8 0, .int .u8 0, .int .u8 0, .int .u8 0, .int .u8 0, .int .u8 0, .int .u8 0, .int .u8 0, .int .u8 0, .bool false, .string ⟨#[]⟩] 34, .row (some ⟨p38, 0, none⟩) 6 6 5 1 (by8 ([119, 116, 97, 105, 100, 103] : List UInt8))] w_) (fun J230 K231 hK232 => ?_) ?_
                      · skip
                        refine G.seqK fun K233 hK234 => ?_
                        refine G.region ?_
                        refine GL.run (j := 1) 1 [0, 2, 4, 5, 68] [(0, .slice A xs.length c), (2, pt p3 0), (4, pt p9 0), (5, .int .i64 (a1_ : Int)), (68, pt p9 0)] (by kernel_rfl) rfl ?_
                        refine GL.sem (j := 2) (H229.ld (o := 0) (ty := 5) (v := .int .u8 (o.toNat : Int)) 1 rfl (by kernel_rfl) rfl) [0, 2, 4, 5, 69] [(0, .slice A xs.length c), (2, pt p3 0), (4, pt p9 0), (5, .int .i64 (a1_ : Int)), (69, .int .u8 (o.toNat : Int))] (by kernel_rfl) (by kernel_rfl) rfl ?_
                        refine GL.call (j := 3) (uses_calls o 116 w227) (by kernel_rfl) rfl (fun e_ w235 hR => ?_)
                        obtain ⟨rfl, H237⟩ := hR
                        have H236 : Hp w [] [.blk p3 [.int .u8 0, .int .u8 0, .int .u8 0, .int .u64 0, .int .u64 0, .int .u8 0, .int .u8 0, .int .u8 0, .int .u8 0, .int .u8 0, .int .u8 0, .int .u8 0, .int .u8 0, .int .u8 0, .int .u8 0, .int .u8 0, .int .u8 0, .int .u8 0, .int .u8 0, .int .u8 0, .int .u8 0, .int .u8 0, .int .u8 0, .int .u8 0, .int .u8 0, .bool false, .string ⟨#[]⟩] 34, .blk p9 [.int .u8 (o.toNat : Int), .int .u8 (wh.toNat : Int), .int .u8 0, .int .u64 0, .int .u64 0, .int .u8 0, .int .u8 0, .int .u8 0, .int .u8 0, .int .u8 0, .int .u8 0, .int .u8 0, .int .u8 0, .int .u8 0, .int .u8 0, .int .u8 0, .int .u8 0, .int .u8 0, .int .u8 0, .int .u8 0, .int .u8 0, .int .u8 0, .int .u8 0, .int .u8 0, .int .u8 0, .bool false, .string ⟨#[]⟩] 34, .row (some ⟨p38, 0, none⟩) 6 6 5 1 (by8 ([119, 116, 97, 105, 100, 103] : List UInt8))] w235 := H229.callNil H237
                        refine ⟨_, rfl, [0, 2, 4, 5, 70], [(0, .slice A xs.length c), (2, pt p3 0), (4, pt p9 0), (5, .int .i64 (a1_ : Int)), (70, .bool (hasF o.toNat 116))], by kernel_rfl, ?_⟩
                        refine GL.k rfl hK234 (fun _ _ h => h) ?_
                        cases hb238 : (hasF o.toNat 116)
                        · skip
                          have hbit1 : ¬ fm o.toNat / 2 ^ 1 % 2 = 1 := fun h_ => by rw [(has_bits _).2.1.2 h_] at hb238; cases hb238
                          refine G.no rfl ?_
                          refine G.skipK hK232 (fun _ _ h => h) ?_
                          have H240 : Hp w [] [.blk p3 [.int .u8 0, .int .u8 0, .int .u8 0, .int .u64 0, .int .u64 0, .int .u8 0, .int .u8 0, .int .u8 0, .int .u8 0, .int .u8 0, .int .u8 0, .int .u8 0, .int .u8 0, .int .u8 0, .int .u8 0, .int .u8 0, .int .u8 0, .int .u8 0, .int .u8 0, .int .u8 0, .int .u8 0, .int .u8 0, .int .u8 0, .int .u8 0, .int .u8 0, .bool false, .string ⟨#[]⟩] 34, .blk p9 [.int .u8 (o.toNat : Int), .int .u8 (wh.toNat : Int), .int .u8 ((0 : UInt8).toNat : Int), .int .u64 0, .int .u64 0, .int .u8 0, .int .u8 0, .int .u8 0, .int .u8 0, .int .u8 0, .int .u8 0, .int .u8 0, .int .u8 0, .int .u8 0, .int .u8 0, .int .u8 0, .int .u8 0, .int .u8 0, .int .u8 0, .int .u8 0, .int .u8 0, .int .u8 0, .int .u8 0, .int .u8 0, .int .u8 0, .bool false, .string ⟨#[]⟩] 34, .row (some ⟨p38, 0, none⟩) 6 6 5 1 (by8 ([119, 116, 97, 105, 100, 103] : List UInt8))] w235 := H236
                          refine G.fit [0, 2, 4, 5] (M' := [(0, .slice A xs.length c), (2, pt p3 0), (4, pt p9 0), (5, .int .i64 (a1_ : Int))]) (by kernel_rfl) ?_
                          exact J230 ⟨(0 : UInt8), a1_⟩ _ ⟨⟨.inr ⟨hbit1, rfl⟩, fun h_ => absurd h_ hbit1, fun _ => rfl⟩, H240⟩
                        · skip
                          have hbit1 : fm o.toNat / 2 ^ 1 % 2 = 1 := (has_bits _).2.1.1 hb238
                          have hns1 := mv_yes hn1 hbit1
                          refine G.yes rfl ?_
                          refine G.seqK fun K241 hK242 => ?_
                          refine G.region ?_
                          refine GL.run (j := 2) 2 [0, 2, 4, 5, 71, 72] [(0, .slice A xs.length c), (2, pt p3 0), (4, pt p9 0), (5, .int .i64 (a1_ : Int)), (71, .slice A xs.length c), (72, .int .i64 (a1_ : Int))] (by kernel_rfl) rfl ?_
                          refine GL.sem (j := 3) (run_idxRd (P := Try.prog) (k := .i64) (t := 26) (A := A) (len := xs.length) (cap := c) (j := a1_) (by kernel_rfl) rfl (hx.hp H236) (by rw [by8_length]) (by first | rfl | omega | exact (cnt_length _).symm | (simp only [List.length_cons, List.length_nil, List.length_drop, List.length_take, List.length_append] <;> omega))) [0, 2, 4, 5, 73] [(0, .slice A xs.length c), (2, pt p3 0), (4, pt p9 0), (5, .int .i64 (a1_ : Int)), (73, .pointer (Option.map (fun x => Addr.add x a1_) A))] (by kernel_rfl) (by kernel_rfl) rfl ?_
                          refine GL.sem (j := 4) (run_ldRd (P := Try.prog) (ty := 5) (A := A) (j := a1_) (v := .int .u8 ((xs.getD a1_ 0).toNat : Int)) (by kernel_rfl) (hx.hp H236) (by8_at (getD8 (by omega)))) [0, 2, 4, 5, 74] [(0, .slice A xs.length c), (2, pt p3 0), (4, pt p9 0), (5, .int .i64 (a1_ : Int)), (74, .int .u8 ((xs.getD a1_ 0).toNat : Int))] (by kernel_rfl) (by kernel_rfl) rfl ?_
                          refine GL.run (j := 5) 1 [0, 2, 4, 5, 74, 75] [(0, .slice A xs.length c), (2, pt p3 0), (4, pt p9 0), (5, .int .i64 (a1_ : Int)), (74, .int .u8 ((xs.getD a1_ 0).toNat : Int)), (75, pt p9 2)] (by kernel_rfl) rfl ?_
                          obtain ⟨w243, r244, H245⟩ := H236.st (P := Try.prog) (o := 2) (ty := 5) (v := .int .u8 ((xs.getD a1_ 0).toNat : Int)) 1 rfl (by kernel_rfl) (by simp) rfl
                          have H245 : Hp w [] [.blk p3 [.int .u8 0, .int .u8 0, .int .u8 0, .int .u64 0, .int .u64 0, .int .u8 0, .int .u8 0, .int .u8 0, .int .u8 0, .int .u8 0, .int .u8 0, .int .u8 0, .int .u8 0, .int .u8 0, .int .u8 0, .int .u8 0, .int .u8 0, .int .u8 0, .int .u8 0, .int .u8 0, .int .u8 0, .int .u8 0, .int .u8 0, .int .u8 0, .int .u8 0, .bool false, .string ⟨#[]⟩] 34, .blk p9 [.int .u8 (o.toNat : Int), .int .u8 (wh.toNat : Int), .int .u8 ((xs.getD a1_ 0).toNat : Int), .int .u64 0, .int .u64 0, .int .u8 0, .int .u8 0, .int .u8 0, .int .u8 0, .int .u8 0, .int .u8 0, .int .u8 0, .int .u8 0, .int .u8 0, .int .u8 0, .int .u8 0, .int .u8 0, .int .u8 0, .int .u8 0, .int .u8 0, .int .u8 0, .int .u8 0, .int .u8 0, .int .u8 0, .int .u8 0, .bool false, .string ⟨#[]⟩] 34, .row (some ⟨p38, 0, none⟩) 6 6 5 1 (by8 ([119, 116, 97, 105, 100, 103] : List UInt8))] w243 := H245
                          refine GL.semU (j := 6) r244 [0, 2, 4, 5] [(0, .slice A xs.length c), (2, pt p3 0), (4, pt p9 0), (5, .int .i64 (a1_ : Int))] (by kernel_rfl) rfl rfl rfl ?_
                          refine GL.k rfl hK242 (fun _ _ h => h) ?_
                          refine G.region ?_
                          refine GL.run (j := 3) 3 [0, 2, 4, 5] [(0, .slice A xs.length c), (2, pt p3 0), (4, pt p9 0), (5, .int .i64 (IntKind.i64.wrap ((a1_ : Int) + 1)))] (by kernel_rfl) rfl ?_
                          have e246 : (IntKind.i64.wrap ((a1_ : Int) + 1)) = ((a1_ + 1 : Nat) : Int) := by rw [in_i64 (by omega)]; omega
                          refine GL.eq (M' := [(0, .slice A xs.length c), (2, pt p3 0), (4, pt p9 0), (5, .int .i64 ((a1_ + 1 : Nat) : Int))]) (by rw [e246]) ?_
                          clear e246
                          refine GL.k rfl hK232 (fun _ _ h => h) ?_
                          have H248 : Hp w [] [.blk p3 [.int .u8 0, .int .u8 0, .int .u8 0, .int .u64 0, .int .u64 0, .int .u8 0, .int .u8 0, .int .u8 0, .int .u8 0, .int .u8 0, .int .u8 0, .int .u8 0, .int .u8 0, .int .u8 0, .int .u8 0, .int .u8 0, .int .u8 0, .int .u8 0, .int .u8 0, .int .u8 0, .int .u8 0, .int .u8 0, .int .u8 0, .int .u8 0, .int .u8 0, .bool false, .string ⟨#[]⟩] 34, .blk p9 [.int .u8 (o.toNat : Int), .int .u8 (wh.toNat : Int), .int .u8 ((xs.getD a1_ 0).toNat : Int), .int .u64 0, .int .u64 0, .int .u8 0, .int .u8 0, .int .u8 0, .int .u8 0, .int .u8 0, .int .u8 0, .int .u8 0, .int .u8 0, .int .u8 0, .int .u8 0, .int .u8 0, .int .u8 0, .int .u8 0, .int .u8 0, .int .u8 0, .int .u8 0, .int .u8 0, .int .u8 0, .int .u8 0, .int .u8 0, .bool false, .string ⟨#[]⟩] 34, .row (some ⟨p38, 0, none⟩) 6 6 5 1 (by8 ([119, 116, 97, 105, 100, 103] : List UInt8))] w243 := H245
                          refine G.fit [0, 2, 4, 5] (M' := [(0, .slice A xs.length c), (2, pt p3 0), (4, pt p9 0), (5, .int .i64 ((a1_ + 1 : Nat) : Int))]) (by kernel_rfl) ?_
                          exact J230 ⟨(xs.getD a1_ 0), a1_ + 1⟩ _ ⟨⟨.inl ⟨hbit1, by omega⟩, fun _ => rfl, fun h_ => absurd hbit1 h_⟩, H248⟩
                      · skip
                        rintro ⟨t, a2_⟩ w249 ⟨hi250, H251⟩
                        refine G.eq (M' := [(0, .slice A xs.length c), (2, pt p3 0), (4, pt p9 0), (5, .int .i64 (a2_ : Int))]) rfl ?_
                        have H251 : Hp w [] [.blk p3 [.int .u8 0, .int .u8 0, .int .u8 0, .int .u64 0, .int .u64 0, .int .u8 0, .int .u8 0, .int .u8 0, .int .u8 0, .int .u8 0, .int .u8 0, .int .u8 0, .int .u8 0, .int .u8 0, .int .u8 0, .int .u8 0, .int .u8 0, .int .u8 0, .int .u8 0, .int .u8 0, .int .u8 0, .int .u8 0, .int .u8 0, .int .u8 0, .int .u8 0, .bool false, .string ⟨#[]⟩] 34, .blk p9 [.int .u8 (o.toNat : Int), .int .u8 (wh.toNat : Int), .int .u8 (t.toNat : Int), .int .u64 0, .int .u64 0, .int .u8 0, .int .u8 0, .int .u8 0, .int .u8 0, .int .u8 0, .int .u8 0, .int .u8 0, .int .u8 0, .int .u8 0, .int .u8 0, .int .u8 0, .int .u8 0, .int .u8 0, .int .u8 0, .int .u8 0, .int .u8 0, .int .u8 0, .int .u8 0, .int .u8 0, .int .u8 0, .bool false, .string ⟨#[]⟩] 34, .row (some ⟨p38, 0, none⟩) 6 6 5 1 (by8 ([119, 116, 97, 105, 100, 103] : List UInt8))] w249 := H251
                        have hm1 := hi250
                        have hq1 : a2_ = 1 + n2_ := mv_same hn1 hm1.1 hq0
                        refine G.seqJ (X := Nat × Nat) (fun ⟨am, a3_⟩ => [(0, .slice A xs.length c), (2, pt p3 0), (4, pt p9 0), (5, .int .i64 (a3_ : Int))]) (fun ⟨am, a3_⟩ w_ => ((Mv o 2 8 a2_ a3_ ∧ (bitP o 2 → am = getB ((xs.take (a2_ + 8)).drop a2_)) ∧ (¬ bitP o 2 → am = 0)) ∧ am < 18446744073709551616) ∧ Hp w [] [.blk p3 [.int .u8 0, .int .u8 0, .int .u8 0, .int .u64 0, .int .u64 0, .int .u8 0, .int .u8 0, .int .u8 0, .int .u8 0, .int .u8 0, .int .u8 0, .int .u8 0, .int .u8 0, .int .u8 0, .int .u8 0, .int .u8 0, .int .u8 0, .int .u8 0, .int .u8 0, .int .u8 0, .int .u8 0, .int .u8 0, .int .u8 0, .int .u8 0, .int .u8 0, .bool false, .string ⟨#[]⟩] 34, .blk p9 [.int .u8 (o.toNat : Int), .int .u8 (wh.toNat : Int), .int .u8 (t.toNat : Int), .int .u64 (am : Int), .int .u64 0, .int .u8 0, .int .u8 0, .int .u8 0, .int .u8 0, .int .u8 0, .int .u8 0, .int .u8 0, .int .u8 0, .int .u8 0, .int .u8 0, .int .u8 0, .int .u8 0, .int .u8 0, .int .u8 0, .int .u8 0, .int .u8 0, .int .u8 0, .int .u8 0, .int .u8 0, .int .u8 0, .bool false, .string ⟨#[]⟩] 34, .row (some ⟨p38, 0, none⟩) 6 6 5 1 (by8 ([119, 116, 97, 105, 100, 103] : List UInt8))] w_) (fun J252 K253 hK254 => ?_) ?_
                        · skip
                          refine G.seqK fun K255 hK256 => ?_
                          refine G.region ?_
                          refine GL.run (j := 1) 1 [0, 2, 4, 5, 78] [(0, .slice A xs.length c), (2, pt p3 0), (4, pt p9 0), (5, .int .i64 (a2_ : Int)), (78, pt p9 0)] (by kernel_rfl) rfl ?_
                          refine GL.sem (j := 2) (H251.ld (o := 0) (ty := 5) (v := .int .u8 (o.toNat : Int)) 1 rfl (by kernel_rfl) rfl) [0, 2, 4, 5, 79] [(0, .slice A xs.length c), (2, pt p3 0), (4, pt p9 0), (5, .int .i64 (a2_ : Int)), (79, .int .u8 (o.toNat : Int))] (by kernel_rfl) (by kernel_rfl) rfl ?_
                          refine GL.call (j := 3) (uses_calls o 97 w249) (by kernel_rfl) rfl (fun e_ w257 hR => ?_)
                          obtain ⟨rfl, H259⟩ := hR
                          have H258 : Hp w [] [.blk p3 [.int .u8 0, .int .u8 0, .int .u8 0, .int .u64 0, .int .u64 0, .int .u8 0, .int .u8 0, .int .u8 0, .int .u8 0, .int .u8 0, .int .u8 0, .int .u8 0, .int .u8 0, .int .u8 0, .int .u8 0, .int .u8 0, .int .u8 0, .int .u8 0, .int .u8 0, .int .u8 0, .int .u8 0, .int .u8 0, .int .u8 0, .int .u8 0, .int .u8 0, .bool false, .string ⟨#[]⟩] 34, .blk p9 [.int .u8 (o.toNat : Int), .int .u8 (wh.toNat : Int), .int .u8 (t.toNat : Int), .int .u64 0, .int .u64 0, .int .u8 0, .int .u8 0, .int .u8 0, .int .u8 0, .int .u8 0, .int .u8 0, .int .u8 0, .int .u8 0, .int .u8 0, .int .u8 0, .int .u8 0, .int .u8 0, .int .u8 0, .int .u8 0, .int .u8 0, .int .u8 0, .int .u8 0, .int .u8 0, .int .u8 0, .int .u8 0, .bool false, .string ⟨#[]⟩] 34, .row (some ⟨p38, 0, none⟩) 6 6 5 1 (by8 ([119, 116, 97, 105, 100, 103] : List UInt8))] w257 := H251.callNil H259
                          refine ⟨_, rfl, [0, 2, 4, 5, 80], [(0, .slice A xs.length c), (2, pt p3 0), (4, pt p9 0), (5, .int .i64 (a2_ : Int)), (80, .bool (hasF o.toNat 97))], by kernel_rfl, ?_⟩
                          refine GL.k rfl hK256 (fun _ _ h => h) ?_
                          cases hb260 : (hasF o.toNat 97)
                          · skip
                            have hbit2 : ¬ fm o.toNat / 2 ^ 2 % 2 = 1 := fun h_ => by rw [(has_bits _).2.2.1.2 h_] at hb260; cases hb260
                            refine G.no rfl ?_
                            refine G.skipK hK254 (fun _ _ h => h) ?_
                            have H262 : Hp w [] [.blk p3 [.int .u8 0, .int .u8 0, .int .u8 0, .int .u64 0, .int .u64 0, .int .u8 0, .int .u8 0, .int .u8 0, .int .u8 0, .int .u8 0, .int .u8 0, .int .u8 0, .int .u8 0, .int .u8 0, .int .u8 0, .int .u8 0, .int .u8 0, .int .u8 0, .int .u8 0, .int .u8 0, .int .u8 0, .int .u8 0, .int .u8 0, .int .u8 0, .int .u8 0, .bool false, .string ⟨#[]⟩] 34, .blk p9 [.int .u8 (o.toNat : Int), .int .u8 (wh.toNat : Int), .int .u8 (t.toNat : Int), .int .u64 0, .int .u64 0, .int .u8 0, .int .u8 0, .int .u8 0, .int .u8 0, .int .u8 0, .int .u8 0, .int .u8 0, .int .u8 0, .int .u8 0, .int .u8 0, .int .u8 0, .int .u8 0, .int .u8 0, .int .u8 0, .int .u8 0, .int .u8 0, .int .u8 0, .int .u8 0, .int .u8 0, .int .u8 0, .bool false, .string ⟨#[]⟩] 34, .row (some ⟨p38, 0, none⟩) 6 6 5 1 (by8 ([119, 116, 97, 105, 100, 103] : List UInt8))] w257 := H258
                            refine G.fit [0, 2, 4, 5] (M' := [(0, .slice A xs.length c), (2, pt p3 0), (4, pt p9 0), (5, .int .i64 (a2_ : Int))]) (by kernel_rfl) ?_
                            exact J252 ⟨0, a2_⟩ _ ⟨⟨⟨.inr ⟨hbit2, rfl⟩, fun h_ => absurd h_ hbit2, fun _ => rfl⟩, by first | exact get8_lt _ | decide⟩, H262⟩
                          · skip
                            have hbit2 : fm o.toNat / 2 ^ 2 % 2 = 1 := (has_bits _).2.2.1.1 hb260
                            have hns2 := mv_yes hn2 hbit2
                            refine G.yes rfl ?_
                            refine G.seqK fun K263 hK264 => ?_
                            refine G.region ?_
                            refine GL.run (j := 4) 4 [0, 2, 4, 5, 81, 82, 84] [(0, .slice A xs.length c), (2, pt p3 0), (4, pt p9 0), (5, .int .i64 (a2_ : Int)), (81, .slice A xs.length c), (82, .int .i64 (a2_ : Int)), (84, .int .i64 (IntKind.i64.wrap ((a2_ : Int) + 8)))] (by kernel_rfl) rfl ?_
                            have e265 : (IntKind.i64.wrap ((a2_ : Int) + 8)) = ((a2_ + 8 : Nat) : Int) := by rw [in_i64 (by omega)]; omega
                            refine GL.eq (M' := [(0, .slice A xs.length c), (2, pt p3 0), (4, pt p9 0), (5, .int .i64 (a2_ : Int)), (81, .slice A xs.length c), (82, .int .i64 (a2_ : Int)), (84, .int .i64 ((a2_ + 8 : Nat) : Int))]) (by rw [e265]) ?_
                            clear e265
                            refine GL.sem (j := 5) (run_sliceSl (P := Try.prog) (lo := some (.int .i64 (a2_ : Int))) (hi := some (.int .i64 ((a2_ + 8 : Nat) : Int))) (t := 26) (len := xs.length) (cap := c) (A := A) (l := a2_) (h := a2_ + 8) (by kernel_rfl) (Or.inr ⟨_, _, rfl, rfl⟩) (Or.inr ⟨_, _, rfl, rfl⟩) (by omega) (by omega)) [0, 2, 4, 5, 85] [(0, .slice A xs.length c), (2, pt p3 0), (4, pt p9 0), (5, .int .i64 (a2_ : Int)), (85, .slice (if c = a2_ then A else Option.map (fun x => Addr.add x a2_) A) (a2_ + 8 - a2_) (c - a2_))] (by kernel_rfl) (by kernel_rfl) rfl ?_
                            refine GL.call (j := 6) (RGet_calls ((xs.take (a2_ + 8)).drop a2_) (if c = a2_ then A else Option.map (fun x => Addr.add x a2_) A) (a2_ + 8 - a2_) (c - a2_) w257 (RdS.cut8 (cap := c) (hx.hp H258) a2_ (a2_ + 8) (cs := ((xs.take (a2_ + 8)).drop a2_)) (by omega) rfl) (by first | rfl | omega | (simp only [List.length_cons, List.length_nil, List.length_drop, List.length_take, List.length_append] <;> omega)) (by first | omega | (rw [List.length_drop, List.length_take]; omega))) (by kernel_rfl) rfl (fun e_ w266 hR => ?_)
                            obtain ⟨rfl, H268⟩ := hR
                            have H267 : Hp w [] [.blk p3 [.int .u8 0, .int .u8 0, .int .u8 0, .int .u64 0, .int .u64 0, .int .u8 0, .int .u8 0, .int .u8 0, .int .u8 0, .int .u8 0, .int .u8 0, .int .u8 0, .int .u8 0, .int .u8 0, .int .u8 0, .int .u8 0, .int .u8 0, .int .u8 0, .int .u8 0, .int .u8 0, .int .u8 0, .int .u8 0, .int .u8 0, .int .u8 0, .int .u8 0, .bool false, .string ⟨#[]⟩] 34, .blk p9 [.int .u8 (o.toNat : Int), .int .u8 (wh.toNat : Int), .int .u8 (t.toNat : Int), .int .u64 0, .int .u64 0, .int .u8 0, .int .u8 0, .int .u8 0, .int .u8 0, .int .u8 0, .int .u8 0, .int .u8 0, .int .u8 0, .int .u8 0, .int .u8 0, .int .u8 0, .int .u8 0, .int .u8 0, .int .u8 0, .int .u8 0, .int .u8 0, .int .u8 0, .int .u8 0, .int .u8 0, .int .u8 0, .bool false, .string ⟨#[]⟩] 34, .row (some ⟨p38, 0, none⟩) 6 6 5 1 (by8 ([119, 116, 97, 105, 100, 103] : List UInt8))] w266 := H258.callNil H268
                            refine ⟨_, rfl, [0, 2, 4, 5, 86], [(0, .slice A xs.length c), (2, pt p3 0), (4, pt p9 0), (5, .int .i64 (a2_ : Int)), (86, .int .u64 (((getB ((xs.take (a2_ + 8)).drop a2_)) : Nat) : Int))], by kernel_rfl, ?_⟩
                            refine GL.run (j := 7) 1 [0, 2, 4, 5, 86, 87] [(0, .slice A xs.length c), (2, pt p3 0), (4, pt p9 0), (5, .int .i64 (a2_ : Int)), (86, .int .u64 (((getB ((xs.take (a2_ + 8)).drop a2_)) : Nat) : Int)), (87, pt p9 3)] (by kernel_rfl) rfl ?_
                            obtain ⟨w269, r270, H271⟩ := H267.st (P := Try.prog) (o := 3) (ty := 23) (v := .int .u64 (((getB ((xs.take (a2_ + 8)).drop a2_)) : Nat) : Int)) 1 rfl (by kernel_rfl) (by simp) rfl
                            have H271 : Hp w [] [.blk p3 [.int .u8 0, .int .u8 0, .int .u8 0, .int .u64 0, .int .u64 0, .int .u8 0, .int .u8 0, .int .u8 0, .int .u8 0, .int .u8 0, .int .u8 0, .int .u8 0, .int .u8 0, .int .u8 0, .int .u8 0, .int .u8 0, .int .u8 0, .int .u8 0, .int .u8 0, .int .u8 0, .int .u8 0, .int .u8 0, .int .u8 0, .int .u8 0, .int .u8 0, .bool false, .string ⟨#[]⟩] 34, .blk p9 [.int .u8 (o.toNat : Int), .int .u8 (wh.toNat : Int), .int .u8 (t.toNat : Int), .int .u64 (((getB ((xs.take (a2_ + 8)).drop a2_)) : Nat) : Int), .int .u64 0, .int .u8 0, .int .u8 0, .int .u8 0, .int .u8 0, .int .u8 0, .int .u8 0, .int .u8 0, .int .u8 0, .int .u8 0, .int .u8 0, .int .u8 0, .int .u8 0, .int .u8 0, .int .u8 0, .int .u8 0, .int .u8 0, .int .u8 0, .int .u8 0, .int .u8 0, .int .u8 0, .bool false, .string ⟨#[]⟩] 34, .row (some ⟨p38, 0, none⟩) 6 6 5 1 (by8 ([119, 116, 97, 105, 100, 103] : List UInt8))] w269 := H271
                            refine GL.semU (j := 8) r270 [0, 2, 4, 5] [(0, .slice A xs.length c), (2, pt p3 0), (4, pt p9 0), (5, .int .i64 (a2_ : Int))] (by kernel_rfl) rfl rfl rfl ?_
                            refine GL.k rfl hK264 (fun _ _ h => h) ?_
                            refine G.region ?_
                            refine GL.run (j := 3) 3 [0, 2, 4, 5] [(0, .slice A xs.length c), (2, pt p3 0), (4, pt p9 0), (5, .int .i64 (IntKind.i64.wrap ((a2_ : Int) + 8)))] (by kernel_rfl) rfl ?_
                            have e272 : (IntKind.i64.wrap ((a2_ : Int) + 8)) = ((a2_ + 8 : Nat) : Int) := by rw [in_i64 (by omega)]; omega
                            refine GL.eq (M' := [(0, .slice A xs.length c), (2, pt p3 0), (4, pt p9 0), (5, .int .i64 ((a2_ + 8 : Nat) : Int))]) (by rw [e272]) ?_
                            clear e272
                            refine GL.k rfl hK254 (fun _ _ h => h) ?_
                            have H274 : Hp w [] [.blk p3 [.int .u8 0, .int .u8 0, .int .u8 0, .int .u64 0, .int .u64 0, .int .u8 0, .int .u8 0, .int .u8 0, .int .u8 0, .int .u8 0, .int .u8 0, .int .u8 0, .int .u8 0, .int .u8 0, .int .u8 0, .int .u8 0, .int .u8 0, .int .u8 0, .int .u8 0, .int .u8 0, .int .u8 0, .int .u8 0, .int .u8 0, .int .u8 0, .int .u8 0, .bool false, .string ⟨#[]⟩] 34, .blk p9 [.int .u8 (o.toNat : Int), .int .u8 (wh.toNat : Int), .int .u8 (t.toNat : Int), .int .u64 (((getB ((xs.take (a2_ + 8)).drop a2_)) : Nat) : Int), .int .u64 0, .int .u8 0, .int .u8 0, .int .u8 0, .int .u8 0, .int .u8 0, .int .u8 0, .int .u8 0, .int .u8 0, .int .u8 0, .int .u8 0, .int .u8 0, .int .u8 0, .int .u8 0, .int .u8 0, .int .u8 0, .int .u8 0, .int .u8 0, .int .u8 0, .int .u8 0, .int .u8 0, .bool false, .string ⟨#[]⟩] 34, .row (some ⟨p38, 0, none⟩) 6 6 5 1 (by8 ([119, 116, 97, 105, 100, 103] : List UInt8))] w269 := H271
                            refine G.fit [0, 2, 4, 5] (M' := [(0, .slice A xs.length c), (2, pt p3 0), (4, pt p9 0), (5, .int .i64 ((a2_ + 8 : Nat) : Int))]) (by kernel_rfl) ?_
                            exact J252 ⟨(getB ((xs.take (a2_ + 8)).drop a2_)), a2_ + 8⟩ _ ⟨⟨⟨.inl ⟨hbit2, by omega⟩, fun _ => rfl, fun h_ => absurd hbit2 h_⟩, get8_lt _⟩, H274⟩
                        · skip
                          rintro ⟨am, a3_⟩ w275 ⟨hi276, H277⟩
                          refine G.eq (M' := [(0, .slice A xs.length c), (2, pt p3 0), (4, pt p9 0), (5, .int .i64 (a3_ : Int))]) rfl ?_
                          have H277 : Hp w [] [.blk p3 [.int .u8 0, .int .u8 0, .int .u8 0, .int .u64 0, .int .u64 0, .int .u8 0, .int .u8 0, .int .u8 0, .int .u8 0, .int .u8 0, .int .u8 0, .int .u8 0, .int .u8 0, .int .u8 0, .int .u8 0, .int .u8 0, .int .u8 0, .int .u8 0, .int .u8 0, .int .u8 0, .int .u8 0, .int .u8 0, .int .u8 0, .int .u8 0, .int .u8 0, .bool false, .string ⟨#[]⟩] 34, .blk p9 [.int .u8 (o.toNat : Int), .int .u8 (wh.toNat : Int), .int .u8 (t.toNat : Int), .int .u64 (am : Int), .int .u64 0, .int .u8 0, .int .u8 0, .int .u8 0, .int .u8 0, .int .u8 0, .int .u8 0, .int .u8 0, .int .u8 0, .int .u8 0, .int .u8 0, .int .u8 0, .int .u8 0, .int .u8 0, .int .u8 0, .int .u8 0, .int .u8 0, .int .u8 0, .int .u8 0, .int .u8 0, .int .u8 0, .bool false, .string ⟨#[]⟩] 34, .row (some ⟨p38, 0, none⟩) 6 6 5 1 (by8 ([119, 116, 97, 105, 100, 103] : List UInt8))] w275 := H277
                          obtain ⟨hm2, hlt2⟩ := hi276
                          have hq2 : a3_ = 1 + n3_ := mv_same hn2 hm2.1 hq1
                          refine G.seqJ (X := Nat × Nat) (fun ⟨id, a4_⟩ => [(0, .slice A xs.length c), (2, pt p3 0), (4, pt p9 0), (5, .int .i64 (a4_ : Int))]) (fun ⟨id, a4_⟩ w_ => ((Mv o 3 8 a3_ a4_ ∧ (bitP o 3 → id = getB ((xs.take (a3_ + 8)).drop a3_)) ∧ (¬ bitP o 3 → id = 0)) ∧ id < 18446744073709551616) ∧ Hp w [] [.blk p3 [.int .u8 0, .int .u8 0, .int .u8 0, .int .u64 0, .int .u64 0, .int .u8 0, .int .u8 0, .int .u8 0, .int .u8 0, .int .u8 0, .int .u8 0, .int .u8 0, .int .u8 0, .int .u8 0, .int .u8 0, .int .u8 0, .int .u8 0, .int .u8 0, .int .u8 0, .int .u8 0, .int .u8 0, .int .u8 0, .int .u8 0, .int .u8 0, .int .u8 0, .bool false, .string ⟨#[]⟩] 34, .blk p9 [.int .u8 (o.toNat : Int), .int .u8 (wh.toNat : Int), .int .u8 (t.toNat : Int), .int .u64 (am : Int), .int .u64 (id : Int), .int .u8 0, .int .u8 0, .int .u8 0, .int .u8 0, .int .u8 0, .int .u8 0, .int .u8 0, .int .u8 0, .int .u8 0, .int .u8 0, .int .u8 0, .int .u8 0, .int .u8 0, .int .u8 0, .int .u8 0, .int .u8 0, .int .u8 0, .int .u8 0, .int .u8 0, .int .u8 0, .bool false, .string ⟨#[]⟩] 34, .row (some ⟨p38, 0, none⟩) 6 6 5 1 (by8 ([119, 116, 97, 105, 100, 103] : List UInt8))] w_) (fun J278 K279 hK280 => ?_) ?_
                          · skip
                            refine G.seqK fun K281 hK282 => ?_
                            refine G.region ?_
                            refine GL.run (j := 1) 1 [0, 2, 4, 5, 90] [(0, .slice A xs.length c), (2, pt p3 0), (4, pt p9 0), (5, .int .i64 (a3_ : Int)), (90, pt p9 0)] (by kernel_rfl) rfl ?_
                            refine GL.sem (j := 2) (H277.ld (o := 0) (ty := 5) (v := .int .u8 (o.toNat : Int)) 1 rfl (by kernel_rfl) rfl) [0, 2, 4, 5, 91] [(0, .slice A xs.length c), (2, pt p3 0), (4, pt p9 0), (5, .int .i64 (a3_ : Int)), (91, .int .u8 (o.toNat : Int))] (by kernel_rfl) (by kernel_rfl) rfl ?_
                            refine GL.call (j := 3) (uses_calls o 105 w275) (by kernel_rfl) rfl (fun e_ w283 hR => ?_)
                            obtain ⟨rfl, H285⟩ := hR
                            have H284 : Hp w [] [.blk p3 [.int .u8 0, .int .u8 0, .int .u8 0, .int .u64 0, .int .u64 0, .int .u8 0, .int .u8 0, .int .u8 0, .int .u8 0, .int .u8 0, .int .u8 0, .int .u8 0, .int .u8 0, .int .u8 0, .int .u8 0, .int .u8 0, .int .u8 0, .int .u8 0, .int .u8 0, .int .u8 0, .int .u8 0, .int .u8 0, .int .u8 0, .int .u8 0, .int .u8 0, .bool false, .string ⟨#[]⟩] 34, .blk p9 [.int .u8 (o.toNat : Int), .int .u8 (wh.toNat : Int), .int .u8 (t.toNat : Int), .int .u64 (am : Int), .int .u64 0, .int .u8 0, .int .u8 0, .int .u8 0, .int .u8 0, .int .u8 0, .int .u8 0, .int .u8 0, .int .u8 0, .int .u8 0, .int .u8 0, .int .u8 0, .int .u8 0, .int .u8 0, .int .u8 0, .int .u8 0, .int .u8 0, .int .u8 0, .int .u8 0, .int .u8 0, .int .u8 0, .bool false, .string ⟨#[]⟩] 34, .row (some ⟨p38, 0, none⟩) 6 6 5 1 (by8 ([119, 116, 97, 105, 100, 103] : List UInt8))] w283 := H277.callNil H285
                            refine ⟨_, rfl, [0, 2, 4, 5, 92], [(0, .slice A xs.length c), (2, pt p3 0), (4, pt p9 0), (5, .int .i64 (a3_ : Int)), (92, .bool (hasF o.toNat 105))], by kernel_rfl, ?_⟩
                            refine GL.k rfl hK282 (fun _ _ h => h) ?_
                            cases hb286 : (hasF o.toNat 105)
                            · skip
                              have hbit3 : ¬ fm o.toNat / 2 ^ 3 % 2 = 1 := fun h_ => by rw [(has_bits _).2.2.2.1.2 h_] at hb286; cases hb286
                              refine G.no rfl ?_
                              refine G.skipK hK280 (fun _ _ h => h) ?_
                              have H288 : Hp w [] [.blk p3 [.int .u8 0, .int .u8 0, .int .u8 0, .int .u64 0, .int .u64 0, .int .u8 0, .int .u8 0, .int .u8 0, .int .u8 0, .int .u8 0, .int .u8 0, .int .u8 0, .int .u8 0, .int .u8 0, .int .u8 0, .int .u8 0, .int .u8 0, .int .u8 0, .int .u8 0, .int .u8 0, .int .u8 0, .int .u8 0, .int .u8 0, .int .u8 0, .int .u8 0, .bool false, .string ⟨#[]⟩] 34, .blk p9 [.int .u8 (o.toNat : Int), .int .u8 (wh.toNat : Int), .int .u8 (t.toNat : Int), .int .u64 (am : Int), .int .u64 0, .int .u8 0, .int .u8 0, .int .u8 0, .int .u8 0, .int .u8 0, .int .u8 0, .int .u8 0, .int .u8 0, .int .u8 0, .int .u8 0, .int .u8 0, .int .u8 0, .int .u8 0, .int .u8 0, .int .u8 0, .int .u8 0, .int .u8 0, .int .u8 0, .int .u8 0, .int .u8 0, .bool false, .string ⟨#[]⟩] 34, .row (some ⟨p38, 0, none⟩) 6 6 5 1 (by8 ([119, 116, 97, 105, 100, 103] : List UInt8))] w283 := H284
                              refine G.fit [0, 2, 4, 5] (M' := [(0, .slice A xs.length c), (2, pt p3 0), (4, pt p9 0), (5, .int .i64 (a3_ : Int))]) (by kernel_rfl) ?_
                              exact J278 ⟨0, a3_⟩ _ ⟨⟨⟨.inr ⟨hbit3, rfl⟩, fun h_ => absurd h_ hbit3, fun _ => rfl⟩, by first | exact get8_lt _ | decide⟩, H288⟩
                            · skip
                              have hbit3 : fm o.toNat / 2 ^ 3 % 2 = 1 := (has_bits _).2.2.2.1.1 hb286
                              have hns3 := mv_yes hn3 hbit3
                              refine G.yes rfl ?_
                              refine G.seqK fun K289 hK290 => ?_
                              refine G.region ?_
                              refine GL.run (j := 4) 4 [0, 2, 4, 5, 93, 94, 96] [(0, .slice A xs.length c), (2, pt p3 0), (4, pt p9 0), (5, .int .i64 (a3_ : Int)), (93, .slice A xs.length c), (94, .int .i64 (a3_ : Int)), (96, .int .i64 (IntKind.i64.wrap ((a3_ : Int) + 8)))] (by kernel_rfl) rfl ?_
                              have e291 : (IntKind.i64.wrap ((a3_ : Int) + 8)) = ((a3_ + 8 : Nat) : Int) := by rw [in_i64 (by omega)]; omega
                              refine GL.eq (M' := [(0, .slice A xs.length c), (2, pt p3 0), (4, pt p9 0), (5, .int .i64 (a3_ : Int)), (93, .slice A xs.length c), (94, .int .i64 (a3_ : Int)), (96, .int .i64 ((a3_ + 8 : Nat) : Int))]) (by rw [e291]) ?_
                              clear e291
                              refine GL.sem (j := 5) (run_sliceSl (P := Try.prog) (lo := some (.int .i64 (a3_ : Int))) (hi := some (.int .i64 ((a3_ + 8 : Nat) : Int))) (t := 26) (len := xs.length) (cap := c) (A := A) (l := a3_) (h := a3_ + 8) (by kernel_rfl) (Or.inr ⟨_, _, rfl, rfl⟩) (Or.inr ⟨_, _, rfl, rfl⟩) (by omega) (by omega)) [0, 2, 4, 5, 97] [(0, .slice A xs.length c), (2, pt p3 0), (4, pt p9 0), (5, .int .i64 (a3_ : Int)), (97, .slice (if c = a3_ then A else Option.map (fun x => Addr.add x a3_) A) (a3_ + 8 - a3_) (c - a3_))] (by kernel_rfl) (by kernel_rfl) rfl ?_
                              refine GL.call (j := 6) (RGet_calls ((xs.take (a3_ + 8)).drop a3_) (if c = a3_ then A else Option.map (fun x => Addr.add x a3_) A) (a3_ + 8 - a3_) (c - a3_) w283 (RdS.cut8 (cap := c) (hx.hp H284) a3_ (a3_ + 8) (cs := ((xs.take (a3_ + 8)).drop a3_)) (by omega) rfl) (by first | rfl | omega | (simp only [List.length_cons, List.length_nil, List.length_drop, List.length_take, List.length_append] <;> omega)) (by first | omega | (rw [List.length_drop, List.length_take]; omega))) (by kernel_rfl) rfl (fun e_ w292 hR => ?_)
                              obtain ⟨rfl, H294⟩ := hR
                              have H293 : Hp w [] [.blk p3 [.int .u8 0, .int .u8 0, .int .u8 0, .int .u64 0, .int .u64 0, .int .u8 0, .int .u8 0, .int .u8 0, .int .u8 0, .int .u8 0, .int .u8 0, .int .u8 0, .int .u8 0, .int .u8 0, .int .u8 0, .int .u8 0, .int .u8 0, .int .u8 0, .int .u8 0, .int .u8 0, .int .u8 0, .int .u8 0, .int .u8 0, .int .u8 0, .int .u8 0, .bool false, .string ⟨#[]⟩] 34, .blk p9 [.int .u8 (o.toNat : Int), .int .u8 (wh.toNat : Int), .int .u8 (t.toNat : Int), .int .u64 (am : Int), .int .u64 0, .int .u8 0, .int .u8 0, .int .u8 0, .int .u8 0, .int .u8 0, .int .u8 0, .int .u8 0, .int .u8 0, .int .u8 0, .int .u8 0, .int .u8 0, .int .u8 0, .int .u8 0, .int .u8 0, .int .u8 0, .int .u8 0, .int .u8 0, .int .u8 0, .int .u8 0, .int .u8 0, .bool false, .string ⟨#[]⟩] 34, .row (some ⟨p38, 0, none⟩) 6 6 5 1 (by8 ([119, 116, 97, 105, 100, 103] : List UInt8))] w292 := H284.callNil H294
                              refine ⟨_, rfl, [0, 2, 4, 5, 98], [(0, .slice A xs.length c), (2, pt p3 0), (4, pt p9 0), (5, .int .i64 (a3_ : Int)), (98, .int .u64 (((getB ((xs.take (a3_ + 8)).drop a3_)) : Nat) : Int))], by kernel_rfl, ?_⟩
                              refine GL.run (j := 7) 1 [0, 2, 4, 5, 98, 99] [(0, .slice A xs.length c), (2, pt p3 0), (4, pt p9 0), (5, .int .i64 (a3_ : Int)), (98, .int .u64 (((getB ((xs.take (a3_ + 8)).drop a3_)) : Nat) : Int)), (99, pt p9 4)] (by kernel_rfl) rfl ?_
                              obtain ⟨w295, r296, H297⟩ := H293.st (P := Try.prog) (o := 4) (ty := 23) (v := .int .u64 (((getB ((xs.take (a3_ + 8)).drop a3_)) : Nat) : Int)) 1 rfl (by kernel_rfl) (by simp) rfl
                              have H297 : Hp w [] [.blk p3 [.int .u8 0, .int .u8 0, .int .u8 0, .int .u64 0, .int .u64 0, .int .u8 0, .int .u8 0, .int .u8 0, .int .u8 0, .int .u8 0, .int .u8 0, .int .u8 0, .int .u8 0, .int .u8 0, .int .u8 0, .int .u8 0, .int .u8 0, .int .u8 0, .int .u8 0, .int .u8 0, .int .u8 0, .int .u8 0, .int .u8 0, .int .u8 0, .int .u8 0, .bool false, .string ⟨#[]⟩] 34, .blk p9 [.int .u8 (o.toNat : Int), .int .u8 (wh.toNat : Int), .int .u8 (t.toNat : Int), .int .u64 (am : Int), .int .u64 (((getB ((xs.take (a3_ + 8)).drop a3_)) : Nat) : Int), .int .u8 0, .int .u8 0, .int .u8 0, .int .u8 0, .int .u8 0, .int .u8 0, .int .u8 0, .int .u8 0, .int .u8 0, .int .u8 0, .int .u8 0, .int .u8 0, .int .u8 0, .int .u8 0, .int .u8 0, .int .u8 0, .int .u8 0, .int .u8 0, .int .u8 0, .int .u8 0, .bool false, .string ⟨#[]⟩] 34, .row (some ⟨p38, 0, none⟩) 6 6 5 1 (by8 ([119, 116, 97, 105, 100, 103] : List UInt8))] w295 := H297
                              refine GL.semU (j := 8) r296 [0, 2, 4, 5] [(0, .slice A xs.length c), (2, pt p3 0), (4, pt p9 0), (5, .int .i64 (a3_ : Int))] (by kernel_rfl) rfl rfl rfl ?_
                              refine GL.k rfl hK290 (fun _ _ h => h) ?_
                              refine G.region ?_
                              refine GL.run (j := 3) 3 [0, 2, 4, 5] [(0, .slice A xs.length c), (2, pt p3 0), (4, pt p9 0), (5, .int .i64 (IntKind.i64.wrap ((a3_ : Int) + 8)))] (by kernel_rfl) rfl ?_
                              have e298 : (IntKind.i64.wrap ((a3_ : Int) + 8)) = ((a3_ + 8 : Nat) : Int) := by rw [in_i64 (by omega)]; omega
                              refine GL.eq (M' := [(0, .slice A xs.length c), (2, pt p3 0), (4, pt p9 0), (5, .int .i64 ((a3_ + 8 : Nat) : Int))]) (by rw [e298]) ?_
                              clear e298
                              refine GL.k rfl hK280 (fun _ _ h => h) ?_
                              have H300 : Hp w [] [.blk p3 [.int .u8 0, .int .u8 0, .int .u8 0, .int .u64 0, .int .u64 0, .int .u8 0, .int .u8 0, .int .u8 0, .int .u8 0, .int .u8 0, .int .u8 0, .int .u8 0, .int .u8 0, .int .u8 0, .int .u8 0, .int .u8 0, .int .u8 0, .int .u8 0, .int .u8 0, .int .u8 0, .int .u8 0, .int .u8 0, .int .u8 0, .int .u8 0, .int .u8 0, .bool false, .string ⟨#[]⟩] 34, .blk p9 [.int .u8 (o.toNat : Int), .int .u8 (wh.toNat : Int), .int .u8 (t.toNat : Int), .int .u64 (am : Int), .int .u64 (((getB ((xs.take (a3_ + 8)).drop a3_)) : Nat) : Int), .int .u8 0, .int .u8 0, .int .u8 0, .int .u8 0, .int .u8 0, .int .u8 0, .int .u8 0, .int .u8 0, .int .u8 0, .int .u8 0, .int .u8 0, .int .u8 0, .int .u8 0, .int .u8 0, .int .u8 0, .int .u8 0, .int .u8 0, .int .u8 0, .int .u8 0, .int .u8 0, .bool false, .string ⟨#[]⟩] 34, .row (some ⟨p38, 0, none⟩) 6 6 5 1 (by8 ([119, 116, 97, 105, 100, 103] : List UInt8))] w295 := H297
                              refine G.fit [0, 2, 4, 5] (M' := [(0, .slice A xs.length c), (2, pt p3 0), (4, pt p9 0), (5, .int .i64 ((a3_ + 8 : Nat) : Int))]) (by kernel_rfl) ?_
                              exact J278 ⟨(getB ((xs.take (a3_ + 8)).drop a3_)), a3_ + 8⟩ _ ⟨⟨⟨.inl ⟨hbit3, by omega⟩, fun _ => rfl, fun h_ => absurd hbit3 h_⟩, get8_lt _⟩, H300⟩
                          · skip
                            rintro ⟨id, a4_⟩ w301 ⟨hi302, H303⟩
                            refine G.eq (M' := [(0, .slice A xs.length c), (2, pt p3 0), (4, pt p9 0), (5, .int .i64 (a4_ : Int))]) rfl ?_
                            have H303 : Hp w [] [.blk p3 [.int .u8 0, .int .u8 0, .int .u8 0, .int .u64 0, .int .u64 0, .int .u8 0, .int .u8 0, .int .u8 0, .int .u8 0, .int .u8 0, .int .u8 0, .int .u8 0, .int .u8 0, .int .u8 0, .int .u8 0, .int .u8 0, .int .u8 0, .int .u8 0, .int .u8 0, .int .u8 0, .int .u8 0, .int .u8 0, .int .u8 0, .int .u8 0, .int .u8 0, .bool false, .string ⟨#[]⟩] 34, .blk p9 [.int .u8 (o.toNat : Int), .int .u8 (wh.toNat : Int), .int .u8 (t.toNat : Int), .int .u64 (am : Int), .int .u64 (id : Int), .int .u8 0, .int .u8 0, .int .u8 0, .int .u8 0, .int .u8 0, .int .u8 0, .int .u8 0, .int .u8 0, .int .u8 0, .int .u8 0, .int .u8 0, .int .u8 0, .int .u8 0, .int .u8 0, .int .u8 0, .int .u8 0, .int .u8 0, .int .u8 0, .int .u8 0, .int .u8 0, .bool false, .string ⟨#[]⟩] 34, .row (some ⟨p38, 0, none⟩) 6 6 5 1 (by8 ([119, 116, 97, 105, 100, 103] : List UInt8))] w301 := H303
                            obtain ⟨hm3, hlt3⟩ := hi302
                            have hq3 : a4_ = 1 + n4_ := mv_same hn3 hm3.1 hq2
                            refine G.seqJ (X := (Nat → UInt8) × Nat) (fun ⟨ad, a5_⟩ => [(0, .slice A xs.length c), (2, pt p3 0), (4, pt p9 0), (5, .int .i64 (a5_ : Int))]) (fun ⟨ad, a5_⟩ w_ => (Mv o 4 20 a4_ a5_ ∧ (bitP o 4 → ad = fun i => xs.getD (a4_ + i) 0) ∧ (¬ bitP o 4 → ad = fun _ => 0)) ∧ Hp w [] [.blk p3 [.int .u8 0, .int .u8 0, .int .u8 0, .int .u64 0, .int .u64 0, .int .u8 0, .int .u8 0, .int .u8 0, .int .u8 0, .int .u8 0, .int .u8 0, .int .u8 0, .int .u8 0, .int .u8 0, .int .u8 0, .int .u8 0, .int .u8 0, .int .u8 0, .int .u8 0, .int .u8 0, .int .u8 0, .int .u8 0, .int .u8 0, .int .u8 0, .int .u8 0, .bool false, .string ⟨#[]⟩] 34, .blk p9 [.int .u8 (o.toNat : Int), .int .u8 (wh.toNat : Int), .int .u8 (t.toNat : Int), .int .u64 (am : Int), .int .u64 (id : Int), .int .u8 ((ad 0).toNat : Int), .int .u8 ((ad 1).toNat : Int), .int .u8 ((ad 2).toNat : Int), .int .u8 ((ad 3).toNat : Int), .int .u8 ((ad 4).toNat : Int), .int .u8 ((ad 5).toNat : Int), .int .u8 ((ad 6).toNat : Int), .int .u8 ((ad 7).toNat : Int), .int .u8 ((ad 8).toNat : Int), .int .u8 ((ad 9).toNat : Int), .int .u8 ((ad 10).toNat : Int), .int .u8 ((ad 11).toNat : Int), .int .u8 ((ad 12).toNat : Int), .int .u8 ((ad 13).toNat : Int), .int .u8 ((ad 14).toNat : Int), .int .u8 ((ad 15).toNat : Int), .int .u8 ((ad 16).toNat : Int), .int .u8 ((ad 17).toNat : Int), .int .u8 ((ad 18).toNat : Int), .int .u8 ((ad 19).toNat : Int), .bool false, .string ⟨#[]⟩] 34, .row (some ⟨p38, 0, none⟩) 6 6 5 1 (by8 ([119, 116, 97, 105, 100, 103] : List UInt8))] w_) (fun J304 K305 hK306 => ?_) ?_
                            · skip
                              refine G.seqK fun K307 hK308 => ?_
                              refine G.region ?_
                              refine GL.run (j := 1) 1 [0, 2, 4, 5, 102] [(0, .slice A xs.length c), (2, pt p3 0), (4, pt p9 0), (5, .int .i64 (a4_ : Int)), (102, pt p9 0)] (by kernel_rfl) rfl ?_
                              refine GL.sem (j := 2) (H303.ld (o := 0) (ty := 5) (v := .int .u8 (o.toNat : Int)) 1 rfl (by kernel_rfl) rfl) [0, 2, 4, 5, 103] [(0, .slice A xs.length c), (2, pt p3 0), (4, pt p9 0), (5, .int .i64 (a4_ : Int)), (103, .int .u8 (o.toNat : Int))] (by kernel_rfl) (by kernel_rfl) rfl ?_
                              refine GL.call (j := 3) (uses_calls o 100 w301) (by kernel_rfl) rfl (fun e_ w309 hR => ?_)
                              obtain ⟨rfl, H311⟩ := hR
                              have H310 : Hp w [] [.blk p3 [.int .u8 0, .int .u8 0, .int .u8 0, .int .u64 0, .int .u64 0, .int .u8 0, .int .u8 0, .int .u8 0, .int .u8 0, .int .u8 0, .int .u8 0, .int .u8 0, .int .u8 0, .int .u8 0, .int .u8 0, .int .u8 0, .int .u8 0, .int .u8 0, .int .u8 0, .int .u8 0, .int .u8 0, .int .u8 0, .int .u8 0, .int .u8 0, .int .u8 0, .bool false, .string ⟨#[]⟩] 34, .blk p9 [.int .u8 (o.toNat : Int), .int .u8 (wh.toNat : Int), .int .u8 (t.toNat : Int), .int .u64 (am : Int), .int .u64 (id : Int), .int .u8 0, .int .u8 0, .int .u8 0, .int .u8 0, .int .u8 0, .int .u8 0, .int .u8 0, .int .u8 0, .int .u8 0, .int .u8 0, .int .u8 0, .int .u8 0, .int .u8 0, .int .u8 0, .int .u8 0, .int .u8 0, .int .u8 0, .int .u8 0, .int .u8 0, .int .u8 0, .bool false, .string ⟨#[]⟩] 34, .row (some ⟨p38, 0, none⟩) 6 6 5 1 (by8 ([119, 116, 97, 105, 100, 103] : List UInt8))] w309 := H303.callNil H311
                              refine ⟨_, rfl, [0, 2, 4, 5, 104], [(0, .slice A xs.length c), (2, pt p3 0), (4, pt p9 0), (5, .int .i64 (a4_ : Int)), (104, .bool (hasF o.toNat 100))], by kernel_rfl, ?_⟩
                              refine GL.k rfl hK308 (fun _ _ h => h) ?_
                              cases hb312 : (hasF o.toNat 100)
                              · skip
                                have hbit4 : ¬ fm o.toNat / 2 ^ 4 % 2 = 1 := fun h_ => by rw [(has_bits _).2.2.2.2.1.2 h_] at hb312; cases hb312
                                refine G.no rfl ?_
                                refine G.skipK hK306 (fun _ _ h => h) ?_
                                have H314 : Hp w [] [.blk p3 [.int .u8 0, .int .u8 0, .int .u8 0, .int .u64 0, .int .u64 0, .int .u8 0, .int .u8 0, .int .u8 0, .int .u8 0, .int .u8 0, .int .u8 0, .int .u8 0, .int .u8 0, .int .u8 0, .int .u8 0, .int .u8 0, .int .u8 0, .int .u8 0, .int .u8 0, .int .u8 0, .int .u8 0, .int .u8 0, .int .u8 0, .int .u8 0, .int .u8 0, .bool false, .string ⟨#[]⟩] 34, .blk p9 [.int .u8 (o.toNat : Int), .int .u8 (wh.toNat : Int), .int .u8 (t.toNat : Int), .int .u64 (am : Int), .int .u64 (id : Int), .int .u8 (((fun _ => (0 : UInt8)) 0).toNat : Int), .int .u8 (((fun _ => (0 : UInt8)) 1).toNat : Int), .int .u8 (((fun _ => (0 : UInt8)) 2).toNat : Int), .int .u8 (((fun _ => (0 : UInt8)) 3).toNat : Int), .int .u8 (((fun _ => (0 : UInt8)) 4).toNat : Int), .int .u8 (((fun _ => (0 : UInt8)) 5).toNat : Int), .int .u8 (((fun _ => (0 : UInt8)) 6).toNat : Int), .int .u8 (((fun _ => (0 : UInt8)) 7).toNat : Int), .int .u8 (((fun _ => (0 : UInt8)) 8).toNat : Int), .int .u8 (((fun _ => (0 : UInt8)) 9).toNat : Int), .int .u8 (((fun _ => (0 : UInt8)) 10).toNat : Int), .int .u8 (((fun _ => (0 : UInt8)) 11).toNat : Int), .int .u8 (((fun _ => (0 : UInt8)) 12).toNat : Int), .int .u8 (((fun _ => (0 : UInt8)) 13).toNat : Int), .int .u8 (((fun _ => (0 : UInt8)) 14).toNat : Int), .int .u8 (((fun _ => (0 : UInt8)) 15).toNat : Int), .int .u8 (((fun _ => (0 : UInt8)) 16).toNat : Int), .int .u8 (((fun _ => (0 : UInt8)) 17).toNat : Int), .int .u8 (((fun _ => (0 : UInt8)) 18).toNat : Int), .int .u8 (((fun _ => (0 : UInt8)) 19).toNat : Int), .bool false, .string ⟨#[]⟩] 34, .row (some ⟨p38, 0, none⟩) 6 6 5 1 (by8 ([119, 116, 97, 105, 100, 103] : List UInt8))] w309 := H310
                                refine G.fit [0, 2, 4, 5] (M' := [(0, .slice A xs.length c), (2, pt p3 0), (4, pt p9 0), (5, .int .i64 (a4_ : Int))]) (by kernel_rfl) ?_
                                exact J304 ⟨(fun _ => (0 : UInt8)), a4_⟩ _ ⟨⟨.inr ⟨hbit4, rfl⟩, fun h_ => absurd h_ hbit4, fun _ => rfl⟩, H314⟩
                              · skip
                                have hbit4 : fm o.toNat / 2 ^ 4 % 2 = 1 := (has_bits _).2.2.2.2.1.1 hb312
                                have hns4 := mv_yes hn4 hbit4
                                refine G.yes rfl ?_
                                refine G.seqK fun K315 hK316 => ?_
                                refine G.seqK fun K317 hK318 => ?_
                                refine G.region ?_
                                refine GL.run (j := 1) 1 [0, 2, 4, 5, 105] [(0, .slice A xs.length c), (2, pt p3 0), (4, pt p9 0), (5, .int .i64 (a4_ : Int)), (105, .int .i64 0)] (by kernel_rfl) rfl ?_
                                refine GL.k rfl hK318 (fun _ _ h => h) ?_
                                refine G.block ?_
                                have H319 : Hp w [] [.blk p3 [.int .u8 0, .int .u8 0, .int .u8 0, .int .u64 0, .int .u64 0, .int .u8 0, .int .u8 0, .int .u8 0, .int .u8 0, .int .u8 0, .int .u8 0, .int .u8 0, .int .u8 0, .int .u8 0, .int .u8 0, .int .u8 0, .int .u8 0, .int .u8 0, .int .u8 0, .int .u8 0, .int .u8 0, .int .u8 0, .int .u8 0, .int .u8 0, .int .u8 0, .bool false, .string ⟨#[]⟩] 34, .blk p9 [.int .u8 (o.toNat : Int), .int .u8 (wh.toNat : Int), .int .u8 (t.toNat : Int), .int .u64 (am : Int), .int .u64 (id : Int), .int .u8 ((adP xs a4_ 0 0).toNat : Int), .int .u8 ((adP xs a4_ 0 1).toNat : Int), .int .u8 ((adP xs a4_ 0 2).toNat : Int), .int .u8 ((adP xs a4_ 0 3).toNat : Int), .int .u8 ((adP xs a4_ 0 4).toNat : Int), .int .u8 ((adP xs a4_ 0 5).toNat : Int), .int .u8 ((adP xs a4_ 0 6).toNat : Int), .int .u8 ((adP xs a4_ 0 7).toNat : Int), .int .u8 ((adP xs a4_ 0 8).toNat : Int), .int .u8 ((adP xs a4_ 0 9).toNat : Int), .int .u8 ((adP xs a4_ 0 10).toNat : Int), .int .u8 ((adP xs a4_ 0 11).toNat : Int), .int .u8 ((adP xs a4_ 0 12).toNat : Int), .int .u8 ((adP xs a4_ 0 13).toNat : Int), .int .u8 ((adP xs a4_ 0 14).toNat : Int), .int .u8 ((adP xs a4_ 0 15).toNat : Int), .int .u8 ((adP xs a4_ 0 16).toNat : Int), .int .u8 ((adP xs a4_ 0 17).toNat : Int), .int .u8 ((adP xs a4_ 0 18).toNat : Int), .int .u8 ((adP xs a4_ 0 19).toNat : Int), .bool false, .string ⟨#[]⟩] 34, .row (some ⟨p38, 0, none⟩) 6 6 5 1 (by8 ([119, 116, 97, 105, 100, 103] : List UInt8))] w309 := H310
                                refine G.fit [0, 2, 4, 5, 105] (M' := [(0, .slice A xs.length c), (2, pt p3 0), (4, pt p9 0), (5, .int .i64 (a4_ : Int)), (105, .int .i64 0)]) (by kernel_rfl) ?_
                                refine G.loop (X := Nat) (fun j => [(0, .slice A xs.length c), (2, pt p3 0), (4, pt p9 0), (5, .int .i64 (a4_ : Int)), (105, .int .i64 (j : Int))]) (fun j w_ => (j ≤ 20) ∧ Hp w [] [.blk p3 [.int .u8 0, .int .u8 0, .int .u8 0, .int .u64 0, .int .u64 0, .int .u8 0, .int .u8 0, .int .u8 0, .int .u8 0, .int .u8 0, .int .u8 0, .int .u8 0, .int .u8 0, .int .u8 0, .int .u8 0, .int .u8 0, .int .u8 0, .int .u8 0, .int .u8 0, .int .u8 0, .int .u8 0, .int .u8 0, .int .u8 0, .int .u8 0, .int .u8 0, .bool false, .string ⟨#[]⟩] 34, .blk p9 [.int .u8 (o.toNat : Int), .int .u8 (wh.toNat : Int), .int .u8 (t.toNat : Int), .int .u64 (am : Int), .int .u64 (id : Int), .int .u8 ((adP xs a4_ j 0).toNat : Int), .int .u8 ((adP xs a4_ j 1).toNat : Int), .int .u8 ((adP xs a4_ j 2).toNat : Int), .int .u8 ((adP xs a4_ j 3).toNat : Int), .int .u8 ((adP xs a4_ j 4).toNat : Int), .int .u8 ((adP xs a4_ j 5).toNat : Int), .int .u8 ((adP xs a4_ j 6).toNat : Int), .int .u8 ((adP xs a4_ j 7).toNat : Int), .int .u8 ((adP xs a4_ j 8).toNat : Int), .int .u8 ((adP xs a4_ j 9).toNat : Int), .int .u8 ((adP xs a4_ j 10).toNat : Int), .int .u8 ((adP xs a4_ j 11).toNat : Int), .int .u8 ((adP xs a4_ j 12).toNat : Int), .int .u8 ((adP xs a4_ j 13).toNat : Int), .int .u8 ((adP xs a4_ j 14).toNat : Int), .int .u8 ((adP xs a4_ j 15).toNat : Int), .int .u8 ((adP xs a4_ j 16).toNat : Int), .int .u8 ((adP xs a4_ j 17).toNat : Int), .int .u8 ((adP xs a4_ j 18).toNat : Int), .int .u8 ((adP xs a4_ j 19).toNat : Int), .bool false, .string ⟨#[]⟩] 34, .row (some ⟨p38, 0, none⟩) 6 6 5 1 (by8 ([119, 116, 97, 105, 100, 103] : List UInt8))] w_) (fun j => 20 - j) 0 [0, 2, 4, 5, 105] (by kernel_rfl) ⟨by omega, H319⟩ ?_
                                rintro j w320 ⟨hi321, H322⟩
                                refine G.eq (M' := [(0, .slice A xs.length c), (2, pt p3 0), (4, pt p9 0), (5, .int .i64 (a4_ : Int)), (105, .int .i64 (j : Int))]) rfl ?_
                                have H322 : Hp w [] [.blk p3 [.int .u8 0, .int .u8 0, .int .u8 0, .int .u64 0, .int .u64 0, .int .u8 0, .int .u8 0, .int .u8 0, .int .u8 0, .int .u8 0, .int .u8 0, .int .u8 0, .int .u8 0, .int .u8 0, .int .u8 0, .int .u8 0, .int .u8 0, .int .u8 0, .int .u8 0, .int .u8 0, .int .u8 0, .int .u8 0, .int .u8 0, .int .u8 0, .int .u8 0, .bool false, .string ⟨#[]⟩] 34, .blk p9 [.int .u8 (o.toNat : Int), .int .u8 (wh.toNat : Int), .int .u8 (t.toNat : Int), .int .u64 (am : Int), .int .u64 (id : Int), .int .u8 ((adP xs a4_ j 0).toNat : Int), .int .u8 ((adP xs a4_ j 1).toNat : Int), .int .u8 ((adP xs a4_ j 2).toNat : Int), .int .u8 ((adP xs a4_ j 3).toNat : Int), .int .u8 ((adP xs a4_ j 4).toNat : Int), .int .u8 ((adP xs a4_ j 5).toNat : Int), .int .u8 ((adP xs a4_ j 6).toNat : Int), .int .u8 ((adP xs a4_ j 7).toNat : Int), .int .u8 ((adP xs a4_ j 8).toNat : Int), .int .u8 ((adP xs a4_ j 9).toNat : Int), .int .u8 ((adP xs a4_ j 10).toNat : Int), .int .u8 ((adP xs a4_ j 11).toNat : Int), .int .u8 ((adP xs a4_ j 12).toNat : Int), .int .u8 ((adP xs a4_ j 13).toNat : Int), .int .u8 ((adP xs a4_ j 14).toNat : Int), .int .u8 ((adP xs a4_ j 15).toNat : Int), .int .u8 ((adP xs a4_ j 16).toNat : Int), .int .u8 ((adP xs a4_ j 17).toNat : Int), .int .u8 ((adP xs a4_ j 18).toNat : Int), .int .u8 ((adP xs a4_ j 19).toNat : Int), .bool false, .string ⟨#[]⟩] 34, .row (some ⟨p38, 0, none⟩) 6 6 5 1 (by8 ([119, 116, 97, 105, 100, 103] : List UInt8))] w320 := H322
                                have hj20 := hi321
                                refine G.seqK fun K323 hK324 => ?_
                                refine G.region ?_
                                refine GL.run (j := 1) 1 [0, 2, 4, 5, 105, 106] [(0, .slice A xs.length c), (2, pt p3 0), (4, pt p9 0), (5, .int .i64 (a4_ : Int)), (105, .int .i64 (j : Int)), (106, .bool (decide ((j : Int) < 20)))] (by kernel_rfl) rfl ?_
                                refine GL.k rfl hK324 (fun _ _ h => h) ?_
                                refine G.seqK fun K325 hK326 => ?_
                                cases hb327 : (decide ((j : Int) < 20))
                                · skip
                                  have hb327f := of_decide_eq_false hb327
                                  obtain rfl : j = 20 := by omega
                                  have H328 : Hp w [] [.blk p3 [.int .u8 0, .int .u8 0, .int .u8 0, .int .u64 0, .int .u64 0, .int .u8 0, .int .u8 0, .int .u8 0, .int .u8 0, .int .u8 0, .int .u8 0, .int .u8 0, .int .u8 0, .int .u8 0, .int .u8 0, .int .u8 0, .int .u8 0, .int .u8 0, .int .u8 0, .int .u8 0, .int .u8 0, .int .u8 0, .int .u8 0, .int .u8 0, .int .u8 0, .bool false, .string ⟨#[]⟩] 34, .blk p9 [.int .u8 (o.toNat : Int), .int .u8 (wh.toNat : Int), .int .u8 (t.toNat : Int), .int .u64 (am : Int), .int .u64 (id : Int), .int .u8 ((xs.getD (a4_ + 0) 0).toNat : Int), .int .u8 ((xs.getD (a4_ + 1) 0).toNat : Int), .int .u8 ((xs.getD (a4_ + 2) 0).toNat : Int), .int .u8 ((xs.getD (a4_ + 3) 0).toNat : Int), .int .u8 ((xs.getD (a4_ + 4) 0).toNat : Int), .int .u8 ((xs.getD (a4_ + 5) 0).toNat : Int), .int .u8 ((xs.getD (a4_ + 6) 0).toNat : Int), .int .u8 ((xs.getD (a4_ + 7) 0).toNat : Int), .int .u8 ((xs.getD (a4_ + 8) 0).toNat : Int), .int .u8 ((xs.getD (a4_ + 9) 0).toNat : Int), .int .u8 ((xs.getD (a4_ + 10) 0).toNat : Int), .int .u8 ((xs.getD (a4_ + 11) 0).toNat : Int), .int .u8 ((xs.getD (a4_ + 12) 0).toNat : Int), .int .u8 ((xs.getD (a4_ + 13) 0).toNat : Int), .int .u8 ((xs.getD (a4_ + 14) 0).toNat : Int), .int .u8 ((xs.getD (a4_ + 15) 0).toNat : Int), .int .u8 ((xs.getD (a4_ + 16) 0).toNat : Int), .int .u8 ((xs.getD (a4_ + 17) 0).toNat : Int), .int .u8 ((xs.getD (a4_ + 18) 0).toNat : Int), .int .u8 ((xs.getD (a4_ + 19) 0).toNat : Int), .bool false, .string ⟨#[]⟩] 34, .row (some ⟨p38, 0, none⟩) 6 6 5 1 (by8 ([119, 116, 97, 105, 100, 103] : List UInt8))] w320 := H322
                                  refine G.no rfl ?_
                                  refine G.exitK hK316 (fun _ _ h => h) ?_
                                  refine G.region ?_
                                  refine GL.run (j := 3) 3 [0, 2, 4, 5] [(0, .slice A xs.length c), (2, pt p3 0), (4, pt p9 0), (5, .int .i64 (IntKind.i64.wrap ((a4_ : Int) + 20)))] (by kernel_rfl) rfl ?_
                                  have e329 : (IntKind.i64.wrap ((a4_ : Int) + 20)) = ((a4_ + 20 : Nat) : Int) := by rw [in_i64 (by omega)]; omega
                                  refine GL.eq (M' := [(0, .slice A xs.length c), (2, pt p3 0), (4, pt p9 0), (5, .int .i64 ((a4_ + 20 : Nat) : Int))]) (by rw [e329]) ?_
                                  clear e329
                                  refine GL.k rfl hK306 (fun _ _ h => h) ?_
                                  have H331 : Hp w [] [.blk p3 [.int .u8 0, .int .u8 0, .int .u8 0, .int .u64 0, .int .u64 0, .int .u8 0, .int .u8 0, .int .u8 0, .int .u8 0, .int .u8 0, .int .u8 0, .int .u8 0, .int .u8 0, .int .u8 0, .int .u8 0, .int .u8 0, .int .u8 0, .int .u8 0, .int .u8 0, .int .u8 0, .int .u8 0, .int .u8 0, .int .u8 0, .int .u8 0, .int .u8 0, .bool false, .string ⟨#[]⟩] 34, .blk p9 [.int .u8 (o.toNat : Int), .int .u8 (wh.toNat : Int), .int .u8 (t.toNat : Int), .int .u64 (am : Int), .int .u64 (id : Int), .int .u8 (((fun i => xs.getD (a4_ + i) 0) 0).toNat : Int), .int .u8 (((fun i => xs.getD (a4_ + i) 0) 1).toNat : Int), .int .u8 (((fun i => xs.getD (a4_ + i) 0) 2).toNat : Int), .int .u8 (((fun i => xs.getD (a4_ + i) 0) 3).toNat : Int), .int .u8 (((fun i => xs.getD (a4_ + i) 0) 4).toNat : Int), .int .u8 (((fun i => xs.getD (a4_ + i) 0) 5).toNat : Int), .int .u8 (((fun i => xs.getD (a4_ + i) 0) 6).toNat : Int), .int .u8 (((fun i => xs.getD (a4_ + i) 0) 7).toNat : Int), .int .u8 (((fun i => xs.getD (a4_ + i) 0) 8).toNat : Int), .int .u8 (((fun i => xs.getD (a4_ + i) 0) 9).toNat : Int), .int .u8 (((fun i => xs.getD (a4_ + i) 0) 10).toNat : Int), .int .u8 (((fun i => xs.getD (a4_ + i) 0) 11).toNat : Int), .int .u8 (((fun i => xs.getD (a4_ + i) 0) 12).toNat : Int), .int .u8 (((fun i => xs.getD (a4_ + i) 0) 13).toNat : Int), .int .u8 (((fun i => xs.getD (a4_ + i) 0) 14).toNat : Int), .int .u8 (((fun i => xs.getD (a4_ + i) 0) 15).toNat : Int), .int .u8 (((fun i => xs.getD (a4_ + i) 0) 16).toNat : Int), .int .u8 (((fun i => xs.getD (a4_ + i) 0) 17).toNat : Int), .int .u8 (((fun i => xs.getD (a4_ + i) 0) 18).toNat : Int), .int .u8 (((fun i => xs.getD (a4_ + i) 0) 19).toNat : Int), .bool false, .string ⟨#[]⟩] 34, .row (some ⟨p38, 0, none⟩) 6 6 5 1 (by8 ([119, 116, 97, 105, 100, 103] : List UInt8))] w320 := H328
                                  refine G.fit [0, 2, 4, 5] (M' := [(0, .slice A xs.length c), (2, pt p3 0), (4, pt p9 0), (5, .int .i64 ((a4_ + 20 : Nat) : Int))]) (by kernel_rfl) ?_
                                  exact J304 ⟨(fun i => xs.getD (a4_ + i) 0), a4_ + 20⟩ _ ⟨⟨.inl ⟨hbit4, by omega⟩, fun _ => rfl, fun h_ => absurd hbit4 h_⟩, H331⟩
                                · skip
                                  have hb327f := of_decide_eq_true hb327
                                  refine G.yes rfl ?_
                                  refine G.skipK hK326 (fun _ _ h => h) ?_
                                  refine G.seqK fun K332 hK333 => ?_
                                  refine G.block ?_
                                  refine G.seqK fun K334 hK335 => ?_
                                  refine G.region ?_
                                  refine GL.run (j := 2) 2 [0, 2, 4, 5, 9, 105] [(0, .slice A xs.length c), (2, pt p3 0), (4, pt p9 0), (5, .int .i64 (a4_ : Int)), (9, .int .i64 (j : Int)), (105, .int .i64 (j : Int))] (by kernel_rfl) rfl ?_
                                  refine GL.k rfl hK335 (fun _ _ h => h) ?_
                                  refine G.region ?_
                                  refine GL.run (j := 5) 5 [0, 2, 4, 5, 105, 108, 109, 112] [(0, .slice A xs.length c), (2, pt p3 0), (4, pt p9 0), (5, .int .i64 (a4_ : Int)), (105, .int .i64 (j : Int)), (108, .int .i64 (j : Int)), (109, .slice A xs.length c), (112, .int .i64 (IntKind.i64.wrap ((a4_ : Int) + (j : Int))))] (by kernel_rfl) rfl ?_
                                  have e336 : (IntKind.i64.wrap ((a4_ : Int) + (j : Int))) = ((a4_ + j : Nat) : Int) := by rw [in_i64 (by omega)]; omega
                                  refine GL.eq (M' := [(0, .slice A xs.length c), (2, pt p3 0), (4, pt p9 0), (5, .int .i64 (a4_ : Int)), (105, .int .i64 (j : Int)), (108, .int .i64 (j : Int)), (109, .slice A xs.length c), (112, .int .i64 ((a4_ + j : Nat) : Int))]) (by rw [e336]) ?_
                                  clear e336
                                  refine GL.sem (j := 6) (run_idxRd (P := Try.prog) (k := .i64) (t := 26) (A := A) (len := xs.length) (cap := c) (j := a4_ + j) (by kernel_rfl) rfl (hx.hp H322) (by rw [by8_length]) (by first | rfl | omega | exact (cnt_length _).symm | (simp only [List.length_cons, List.length_nil, List.length_drop, List.length_take, List.length_append] <;> omega))) [0, 2, 4, 5, 105, 108, 113] [(0, .slice A xs.length c), (2, pt p3 0), (4, pt p9 0), (5, .int .i64 (a4_ : Int)), (105, .int .i64 (j : Int)), (108, .int .i64 (j : Int)), (113, .pointer (Option.map (fun x => Addr.add x (a4_ + j)) A))] (by kernel_rfl) (by kernel_rfl) rfl ?_
                                  refine GL.sem (j := 7) (run_ldRd (P := Try.prog) (ty := 5) (A := A) (j := a4_ + j) (v := .int .u8 ((xs.getD (a4_ + j) 0).toNat : Int)) (by kernel_rfl) (hx.hp H322) (by8_at (getD8 (by omega)))) [0, 2, 4, 5, 105, 108, 114] [(0, .slice A xs.length c), (2, pt p3 0), (4, pt p9 0), (5, .int .i64 (a4_ : Int)), (105, .int .i64 (j : Int)), (108, .int .i64 (j : Int)), (114, .int .u8 ((xs.getD (a4_ + j) 0).toNat : Int))] (by kernel_rfl) (by kernel_rfl) rfl ?_
                                  refine GL.run (j := 8) 1 [0, 2, 4, 5, 105, 108, 114, 115] [(0, .slice A xs.length c), (2, pt p3 0), (4, pt p9 0), (5, .int .i64 (a4_ : Int)), (105, .int .i64 (j : Int)), (108, .int .i64 (j : Int)), (114, .int .u8 ((xs.getD (a4_ + j) 0).toNat : Int)), (115, pt p9 5)] (by kernel_rfl) rfl ?_
                                  refine GL.sem (j := 9) (run_idxArr (P := Try.prog) (k := .i64) (t := 24) (len := 20) (sz := 1) (b := p9) (o := 5) (j := j) (by kernel_rfl) rfl (by omega)) [0, 2, 4, 5, 105, 114, 116] [(0, .slice A xs.length c), (2, pt p3 0), (4, pt p9 0), (5, .int .i64 (a4_ : Int)), (105, .int .i64 (j : Int)), (114, .int .u8 ((xs.getD (a4_ + j) 0).toNat : Int)), (116, pt p9 (5 + j * 1))] (by kernel_rfl) (by kernel_rfl) rfl ?_
                                  obtain ⟨w337, r338, H339⟩ := H322.st (P := Try.prog) (o := (5 + j * 1)) (ty := 5) (v := .int .u8 ((xs.getD (a4_ + j) 0).toNat : Int)) 1 rfl (by kernel_rfl) (by show (5 + j * 1) < 27; omega) rfl
                                  rw [ad_set (by omega)] at H339
                                  have H339 : Hp w [] [.blk p3 [.int .u8 0, .int .u8 0, .int .u8 0, .int .u64 0, .int .u64 0, .int .u8 0, .int .u8 0, .int .u8 0, .int .u8 0, .int .u8 0, .int .u8 0, .int .u8 0, .int .u8 0, .int .u8 0, .int .u8 0, .int .u8 0, .int .u8 0, .int .u8 0, .int .u8 0, .int .u8 0, .int .u8 0, .int .u8 0, .int .u8 0, .int .u8 0, .int .u8 0, .bool false, .string ⟨#[]⟩] 34, .blk p9 [.int .u8 (o.toNat : Int), .int .u8 (wh.toNat : Int), .int .u8 (t.toNat : Int), .int .u64 (am : Int), .int .u64 (id : Int), .int .u8 ((adP xs a4_ (j + 1) 0).toNat : Int), .int .u8 ((adP xs a4_ (j + 1) 1).toNat : Int), .int .u8 ((adP xs a4_ (j + 1) 2).toNat : Int), .int .u8 ((adP xs a4_ (j + 1) 3).toNat : Int), .int .u8 ((adP xs a4_ (j + 1) 4).toNat : Int), .int .u8 ((adP xs a4_ (j + 1) 5).toNat : Int), .int .u8 ((adP xs a4_ (j + 1) 6).toNat : Int), .int .u8 ((adP xs a4_ (j + 1) 7).toNat : Int), .int .u8 ((adP xs a4_ (j + 1) 8).toNat : Int), .int .u8 ((adP xs a4_ (j + 1) 9).toNat : Int), .int .u8 ((adP xs a4_ (j + 1) 10).toNat : Int), .int .u8 ((adP xs a4_ (j + 1) 11).toNat : Int), .int .u8 ((adP xs a4_ (j + 1) 12).toNat : Int), .int .u8 ((adP xs a4_ (j + 1) 13).toNat : Int), .int .u8 ((adP xs a4_ (j + 1) 14).toNat : Int), .int .u8 ((adP xs a4_ (j + 1) 15).toNat : Int), .int .u8 ((adP xs a4_ (j + 1) 16).toNat : Int), .int .u8 ((adP xs a4_ (j + 1) 17).toNat : Int), .int .u8 ((adP xs a4_ (j + 1) 18).toNat : Int), .int .u8 ((adP xs a4_ (j + 1) 19).toNat : Int), .bool false, .string ⟨#[]⟩] 34, .row (some ⟨p38, 0, none⟩) 6 6 5 1 (by8 ([119, 116, 97, 105, 100, 103] : List UInt8))] w337 := H339
                                  refine GL.semU (j := 10) r338 [0, 2, 4, 5, 105] [(0, .slice A xs.length c), (2, pt p3 0), (4, pt p9 0), (5, .int .i64 (a4_ : Int)), (105, .int .i64 (j : Int))] (by kernel_rfl) rfl rfl rfl ?_
                                  refine GL.k rfl hK333 (fun _ _ h => h) ?_
                                  refine G.region ?_
                                  refine GL.run (j := 2) 2 [0, 2, 4, 5, 105] [(0, .slice A xs.length c), (2, pt p3 0), (4, pt p9 0), (5, .int .i64 (a4_ : Int)), (105, .int .i64 (IntKind.i64.wrap ((j : Int) + 1)))] (by kernel_rfl) rfl ?_
                                  have e340 : (IntKind.i64.wrap ((j : Int) + 1)) = ((j + 1 : Nat) : Int) := by rw [in_i64 (by omega)]; omega
                                  refine GL.eq (M' := [(0, .slice A xs.length c), (2, pt p3 0), (4, pt p9 0), (5, .int .i64 (a4_ : Int)), (105, .int .i64 ((j + 1 : Nat) : Int))]) (by rw [e340]) ?_
                                  clear e340
                                  refine GL.fit (ts := [0, 2, 4, 5, 105]) (M' := [(0, .slice A xs.length c), (2, pt p3 0), (4, pt p9 0), (5, .int .i64 (a4_ : Int)), (105, .int .i64 ((j + 1 : Nat) : Int))]) (by kernel_rfl) ?_
                                  refine GL.eq (M' := [(0, .slice A xs.length c), (2, pt p3 0), (4, pt p9 0), (5, .int .i64 (a4_ : Int)), (105, .int .i64 (((j + 1) : Nat) : Int))]) (by rfl) ?_
                                  exact GL.again (j + 1) [0, 2, 4, 5, 105] rfl (by kernel_rfl) (by show 20 - (j + 1) < 20 - j; omega) ⟨by omega, H339⟩
                            · skip
                              rintro ⟨ad, a5_⟩ w341 ⟨hi342, H343⟩
                              refine G.eq (M' := [(0, .slice A xs.length c), (2, pt p3 0), (4, pt p9 0), (5, .int .i64 (a5_ : Int))]) rfl ?_
                              have H343 : Hp w [] [.blk p3 [.int .u8 0, .int .u8 0, .int .u8 0, .int .u64 0, .int .u64 0, .int .u8 0, .int .u8 0, .int .u8 0, .int .u8 0, .int .u8 0, .int .u8 0, .int .u8 0, .int .u8 0, .int .u8 0, .int .u8 0, .int .u8 0, .int .u8 0, .int .u8 0, .int .u8 0, .int .u8 0, .int .u8 0, .int .u8 0, .int .u8 0, .int .u8 0, .int .u8 0, .bool false, .string ⟨#[]⟩] 34, .blk p9 [.int .u8 (o.toNat : Int), .int .u8 (wh.toNat : Int), .int .u8 (t.toNat : Int), .int .u64 (am : Int), .int .u64 (id : Int), .int .u8 ((ad 0).toNat : Int), .int .u8 ((ad 1).toNat : Int), .int .u8 ((ad 2).toNat : Int), .int .u8 ((ad 3).toNat : Int), .int .u8 ((ad 4).toNat : Int), .int .u8 ((ad 5).toNat : Int), .int .u8 ((ad 6).toNat : Int), .int .u8 ((ad 7).toNat : Int), .int .u8 ((ad 8).toNat : Int), .int .u8 ((ad 9).toNat : Int), .int .u8 ((ad 10).toNat : Int), .int .u8 ((ad 11).toNat : Int), .int .u8 ((ad 12).toNat : Int), .int .u8 ((ad 13).toNat : Int), .int .u8 ((ad 14).toNat : Int), .int .u8 ((ad 15).toNat : Int), .int .u8 ((ad 16).toNat : Int), .int .u8 ((ad 17).toNat : Int), .int .u8 ((ad 18).toNat : Int), .int .u8 ((ad 19).toNat : Int), .bool false, .string ⟨#[]⟩] 34, .row (some ⟨p38, 0, none⟩) 6 6 5 1 (by8 ([119, 116, 97, 105, 100, 103] : List UInt8))] w341 := H343
                              have hm4 := hi342
                              have hq4 : a5_ = 1 + n5_ := mv_same hn4 hm4.1 hq3
                              refine G.seqJ (X := Bool × Nat) (fun ⟨ag, a6_⟩ => [(0, .slice A xs.length c), (2, pt p3 0), (4, pt p9 0), (5, .int .i64 (a6_ : Int))]) (fun ⟨ag, a6_⟩ w_ => (Mv o 5 1 a5_ a6_ ∧ (bitP o 5 → ag = (((xs.getD a5_ 0).toNat : Int) == 1)) ∧ (¬ bitP o 5 → ag = false)) ∧ Hp w [] [.blk p3 [.int .u8 0, .int .u8 0, .int .u8 0, .int .u64 0, .int .u64 0, .int .u8 0, .int .u8 0, .int .u8 0, .int .u8 0, .int .u8 0, .int .u8 0, .int .u8 0, .int .u8 0, .int .u8 0, .int .u8 0, .int .u8 0, .int .u8 0, .int .u8 0, .int .u8 0, .int .u8 0, .int .u8 0, .int .u8 0, .int .u8 0, .int .u8 0, .int .u8 0, .bool false, .string ⟨#[]⟩] 34, .blk p9 [.int .u8 (o.toNat : Int), .int .u8 (wh.toNat : Int), .int .u8 (t.toNat : Int), .int .u64 (am : Int), .int .u64 (id : Int), .int .u8 ((ad 0).toNat : Int), .int .u8 ((ad 1).toNat : Int), .int .u8 ((ad 2).toNat : Int), .int .u8 ((ad 3).toNat : Int), .int .u8 ((ad 4).toNat : Int), .int .u8 ((ad 5).toNat : Int), .int .u8 ((ad 6).toNat : Int), .int .u8 ((ad 7).toNat : Int), .int .u8 ((ad 8).toNat : Int), .int .u8 ((ad 9).toNat : Int), .int .u8 ((ad 10).toNat : Int), .int .u8 ((ad 11).toNat : Int), .int .u8 ((ad 12).toNat : Int), .int .u8 ((ad 13).toNat : Int), .int .u8 ((ad 14).toNat : Int), .int .u8 ((ad 15).toNat : Int), .int .u8 ((ad 16).toNat : Int), .int .u8 ((ad 17).toNat : Int), .int .u8 ((ad 18).toNat : Int), .int .u8 ((ad 19).toNat : Int), .bool ag, .string ⟨#[]⟩] 34, .row (some ⟨p38, 0, none⟩) 6 6 5 1 (by8 ([119, 116, 97, 105, 100, 103] : List UInt8))] w_) (fun J344 K345 hK346 => ?_) ?_
                              · skip
                                refine G.seqK fun K347 hK348 => ?_
                                refine G.region ?_
                                refine GL.run (j := 1) 1 [0, 2, 4, 5, 120] [(0, .slice A xs.length c), (2, pt p3 0), (4, pt p9 0), (5, .int .i64 (a5_ : Int)), (120, pt p9 0)] (by kernel_rfl) rfl ?_
                                refine GL.sem (j := 2) (H343.ld (o := 0) (ty := 5) (v := .int .u8 (o.toNat : Int)) 1 rfl (by kernel_rfl) rfl) [0, 2, 4, 5, 121] [(0, .slice A xs.length c), (2, pt p3 0), (4, pt p9 0), (5, .int .i64 (a5_ : Int)), (121, .int .u8 (o.toNat : Int))] (by kernel_rfl) (by kernel_rfl) rfl ?_
                                refine GL.call (j := 3) (uses_calls o 103 w341) (by kernel_rfl) rfl (fun e_ w349 hR => ?_)
                                obtain ⟨rfl, H351⟩ := hR
                                have H350 : Hp w [] [.blk p3 [.int .u8 0, .int .u8 0, .int .u8 0, .int .u64 0, .int .u64 0, .int .u8 0, .int .u8 0, .int .u8 0, .int .u8 0, .int .u8 0, .int .u8 0, .int .u8 0, .int .u8 0, .int .u8 0, .int .u8 0, .int .u8 0, .int .u8 0, .int .u8 0, .int .u8 0, .int .u8 0, .int .u8 0, .int .u8 0, .int .u8 0, .int .u8 0, .int .u8 0, .bool false, .string ⟨#[]⟩] 34, .blk p9 [.int .u8 (o.toNat : Int), .int .u8 (wh.toNat : Int), .int .u8 (t.toNat : Int), .int .u64 (am : Int), .int .u64 (id : Int), .int .u8 ((ad 0).toNat : Int), .int .u8 ((ad 1).toNat : Int), .int .u8 ((ad 2).toNat : Int), .int .u8 ((ad 3).toNat : Int), .int .u8 ((ad 4).toNat : Int), .int .u8 ((ad 5).toNat : Int), .int .u8 ((ad 6).toNat : Int), .int .u8 ((ad 7).toNat : Int), .int .u8 ((ad 8).toNat : Int), .int .u8 ((ad 9).toNat : Int), .int .u8 ((ad 10).toNat : Int), .int .u8 ((ad 11).toNat : Int), .int .u8 ((ad 12).toNat : Int), .int .u8 ((ad 13).toNat : Int), .int .u8 ((ad 14).toNat : Int), .int .u8 ((ad 15).toNat : Int), .int .u8 ((ad 16).toNat : Int), .int .u8 ((ad 17).toNat : Int), .int .u8 ((ad 18).toNat : Int), .int .u8 ((ad 19).toNat : Int), .bool false, .string ⟨#[]⟩] 34, .row (some ⟨p38, 0, none⟩) 6 6 5 1 (by8 ([119, 116, 97, 105, 100, 103] : List UInt8))] w349 := H343.callNil H351
                                refine ⟨_, rfl, [0, 2, 4, 5, 122], [(0, .slice A xs.length c), (2, pt p3 0), (4, pt p9 0), (5, .int .i64 (a5_ : Int)), (122, .bool (hasF o.toNat 103))], by kernel_rfl, ?_⟩
                                refine GL.k rfl hK348 (fun _ _ h => h) ?_
                                cases hb352 : (hasF o.toNat 103)
                                · skip
                                  have hbit5 : ¬ fm o.toNat / 2 ^ 5 % 2 = 1 := fun h_ => by rw [(has_bits _).2.2.2.2.2.1.2 h_] at hb352; cases hb352
                                  refine G.no rfl ?_
                                  refine G.skipK hK346 (fun _ _ h => h) ?_
                                  have H354 : Hp w [] [.blk p3 [.int .u8 0, .int .u8 0, .int .u8 0, .int .u64 0, .int .u64 0, .int .u8 0, .int .u8 0, .int .u8 0, .int .u8 0, .int .u8 0, .int .u8 0, .int .u8 0, .int .u8 0, .int .u8 0, .int .u8 0, .int .u8 0, .int .u8 0, .int .u8 0, .int .u8 0, .int .u8 0, .int .u8 0, .int .u8 0, .int .u8 0, .int .u8 0, .int .u8 0, .bool false, .string ⟨#[]⟩] 34, .blk p9 [.int .u8 (o.toNat : Int), .int .u8 (wh.toNat : Int), .int .u8 (t.toNat : Int), .int .u64 (am : Int), .int .u64 (id : Int), .int .u8 ((ad 0).toNat : Int), .int .u8 ((ad 1).toNat : Int), .int .u8 ((ad 2).toNat : Int), .int .u8 ((ad 3).toNat : Int), .int .u8 ((ad 4).toNat : Int), .int .u8 ((ad 5).toNat : Int), .int .u8 ((ad 6).toNat : Int), .int .u8 ((ad 7).toNat : Int), .int .u8 ((ad 8).toNat : Int), .int .u8 ((ad 9).toNat : Int), .int .u8 ((ad 10).toNat : Int), .int .u8 ((ad 11).toNat : Int), .int .u8 ((ad 12).toNat : Int), .int .u8 ((ad 13).toNat : Int), .int .u8 ((ad 14).toNat : Int), .int .u8 ((ad 15).toNat : Int), .int .u8 ((ad 16).toNat : Int), .int .u8 ((ad 17).toNat : Int), .int .u8 ((ad 18).toNat : Int), .int .u8 ((ad 19).toNat : Int), .bool false, .string ⟨#[]⟩] 34, .row (some ⟨p38, 0, none⟩) 6 6 5 1 (by8 ([119, 116, 97, 105, 100, 103] : List UInt8))] w349 := H350
                                  refine G.fit [0, 2, 4, 5] (M' := [(0, .slice A xs.length c), (2, pt p3 0), (4, pt p9 0), (5, .int .i64 (a5_ : Int))]) (by kernel_rfl) ?_
                                  exact J344 ⟨false, a5_⟩ _ ⟨⟨.inr ⟨hbit5, rfl⟩, fun h_ => absurd h_ hbit5, fun _ => rfl⟩, H354⟩
                                · skip
                                  have hbit5 : fm o.toNat / 2 ^ 5 % 2 = 1 := (has_bits _).2.2.2.2.2.1.1 hb352
                                  have hns5 := mv_yes hn5 hbit5
                                  refine G.yes rfl ?_
                                  refine G.seqK fun K355 hK356 => ?_
                                  refine G.region ?_
                                  refine GL.run (j := 2) 2 [0, 2, 4, 5, 123, 124] [(0, .slice A xs.length c), (2, pt p3 0), (4, pt p9 0), (5, .int .i64 (a5_ : Int)), (123, .slice A xs.length c), (124, .int .i64 (a5_ : Int))] (by kernel_rfl) rfl ?_
                                  refine GL.sem (j := 3) (run_idxRd (P := Try.prog) (k := .i64) (t := 26) (A := A) (len := xs.length) (cap := c) (j := a5_) (by kernel_rfl) rfl (hx.hp H350) (by rw [by8_length]) (by first | rfl | omega | exact (cnt_length _).symm | (simp only [List.length_cons, List.length_nil, List.length_drop, List.length_take, List.length_append] <;> omega))) [0, 2, 4, 5, 125] [(0, .slice A xs.length c), (2, pt p3 0), (4, pt p9 0), (5, .int .i64 (a5_ : Int)), (125, .pointer (Option.map (fun x => Addr.add x a5_) A))] (by kernel_rfl) (by kernel_rfl) rfl ?_
                                  refine GL.sem (j := 4) (run_ldRd (P := Try.prog) (ty := 5) (A := A) (j := a5_) (v := .int .u8 ((xs.getD a5_ 0).toNat : Int)) (by kernel_rfl) (hx.hp H350) (by8_at (getD8 (by omega)))) [0, 2, 4, 5, 126] [(0, .slice A xs.length c), (2, pt p3 0), (4, pt p9 0), (5, .int .i64 (a5_ : Int)), (126, .int .u8 ((xs.getD a5_ 0).toNat : Int))] (by kernel_rfl) (by kernel_rfl) rfl ?_
                                  refine GL.run (j := 6) 2 [0, 2, 4, 5, 127, 128] [(0, .slice A xs.length c), (2, pt p3 0), (4, pt p9 0), (5, .int .i64 (a5_ : Int)), (127, .bool (((xs.getD a5_ 0).toNat : Int) == 1)), (128, pt p9 25)] (by kernel_rfl) rfl ?_
                                  obtain ⟨w357, r358, H359⟩ := H350.st (P := Try.prog) (o := 25) (ty := 4) (v := .bool (((xs.getD a5_ 0).toNat : Int) == 1)) 1 rfl (by kernel_rfl) (by simp) rfl
                                  have H359 : Hp w [] [.blk p3 [.int .u8 0, .int .u8 0, .int .u8 0, .int .u64 0, .int .u64 0, .int .u8 0, .int .u8 0, .int .u8 0, .int .u8 0, .int .u8 0, .int .u8 0, .int .u8 0, .int .u8 0, .int .u8 0, .int .u8 0, .int .u8 0, .int .u8 0, .int .u8 0, .int .u8 0, .int .u8 0, .int .u8 0, .int .u8 0, .int .u8 0, .int .u8 0, .int .u8 0, .bool false, .string ⟨#[]⟩] 34, .blk p9 [.int .u8 (o.toNat : Int), .int .u8 (wh.toNat : Int), .int .u8 (t.toNat : Int), .int .u64 (am : Int), .int .u64 (id : Int), .int .u8 ((ad 0).toNat : Int), .int .u8 ((ad 1).toNat : Int), .int .u8 ((ad 2).toNat : Int), .int .u8 ((ad 3).toNat : Int), .int .u8 ((ad 4).toNat : Int), .int .u8 ((ad 5).toNat : Int), .int .u8 ((ad 6).toNat : Int), .int .u8 ((ad 7).toNat : Int), .int .u8 ((ad 8).toNat : Int), .int .u8 ((ad 9).toNat : Int), .int .u8 ((ad 10).toNat : Int), .int .u8 ((ad 11).toNat : Int), .int .u8 ((ad 12).toNat : Int), .int .u8 ((ad 13).toNat : Int), .int .u8 ((ad 14).toNat : Int), .int .u8 ((ad 15).toNat : Int), .int .u8 ((ad 16).toNat : Int), .int .u8 ((ad 17).toNat : Int), .int .u8 ((ad 18).toNat : Int), .int .u8 ((ad 19).toNat : Int), .bool (((xs.getD a5_ 0).toNat : Int) == 1), .string ⟨#[]⟩] 34, .row (some ⟨p38, 0, none⟩) 6 6 5 1 (by8 ([119, 116, 97, 105, 100, 103] : List UInt8))] w357 := H359
                                  refine GL.semU (j := 7) r358 [0, 2, 4, 5] [(0, .slice A xs.length c), (2, pt p3 0), (4, pt p9 0), (5, .int .i64 (a5_ : Int))] (by kernel_rfl) rfl rfl rfl ?_
                                  refine GL.k rfl hK356 (fun _ _ h => h) ?_
                                  refine G.region ?_
                                  refine GL.run (j := 3) 3 [0, 2, 4, 5] [(0, .slice A xs.length c), (2, pt p3 0), (4, pt p9 0), (5, .int .i64 (IntKind.i64.wrap ((a5_ : Int) + 1)))] (by kernel_rfl) rfl ?_
                                  have e360 : (IntKind.i64.wrap ((a5_ : Int) + 1)) = ((a5_ + 1 : Nat) : Int) := by rw [in_i64 (by omega)]; omega
                                  refine GL.eq (M' := [(0, .slice A xs.length c), (2, pt p3 0), (4, pt p9 0), (5, .int .i64 ((a5_ + 1 : Nat) : Int))]) (by rw [e360]) ?_
                                  clear e360
                                  refine GL.k rfl hK346 (fun _ _ h => h) ?_
                                  have H362 : Hp w [] [.blk p3 [.int .u8 0, .int .u8 0, .int .u8 0, .int .u64 0, .int .u64 0, .int .u8 0, .int .u8 0, .int .u8 0, .int .u8 0, .int .u8 0, .int .u8 0, .int .u8 0, .int .u8 0, .int .u8 0, .int .u8 0, .int .u8 0, .int .u8 0, .int .u8 0, .int .u8 0, .int .u8 0, .int .u8 0, .int .u8 0, .int .u8 0, .int .u8 0, .int .u8 0, .bool false, .string ⟨#[]⟩] 34, .blk p9 [.int .u8 (o.toNat : Int), .int .u8 (wh.toNat : Int), .int .u8 (t.toNat : Int), .int .u64 (am : Int), .int .u64 (id : Int), .int .u8 ((ad 0).toNat : Int), .int .u8 ((ad 1).toNat : Int), .int .u8 ((ad 2).toNat : Int), .int .u8 ((ad 3).toNat : Int), .int .u8 ((ad 4).toNat : Int), .int .u8 ((ad 5).toNat : Int), .int .u8 ((ad 6).toNat : Int), .int .u8 ((ad 7).toNat : Int), .int .u8 ((ad 8).toNat : Int), .int .u8 ((ad 9).toNat : Int), .int .u8 ((ad 10).toNat : Int), .int .u8 ((ad 11).toNat : Int), .int .u8 ((ad 12).toNat : Int), .int .u8 ((ad 13).toNat : Int), .int .u8 ((ad 14).toNat : Int), .int .u8 ((ad 15).toNat : Int), .int .u8 ((ad 16).toNat : Int), .int .u8 ((ad 17).toNat : Int), .int .u8 ((ad 18).toNat : Int), .int .u8 ((ad 19).toNat : Int), .bool (((xs.getD a5_ 0).toNat : Int) == 1), .string ⟨#[]⟩] 34, .row (some ⟨p38, 0, none⟩) 6 6 5 1 (by8 ([119, 116, 97, 105, 100, 103] : List UInt8))] w357 := H359
                                  refine G.fit [0, 2, 4, 5] (M' := [(0, .slice A xs.length c), (2, pt p3 0), (4, pt p9 0), (5, .int .i64 ((a5_ + 1 : Nat) : Int))]) (by kernel_rfl) ?_
                                  exact J344 ⟨(((xs.getD a5_ 0).toNat : Int) == 1), a5_ + 1⟩ _ ⟨⟨.inl ⟨hbit5, by omega⟩, fun _ => rfl, fun h_ => absurd hbit5 h_⟩, H362⟩
                              · skip
                                rintro ⟨ag, a6_⟩ w363 ⟨hi364, H365⟩
                                refine G.eq (M' := [(0, .slice A xs.length c), (2, pt p3 0), (4, pt p9 0), (5, .int .i64 (a6_ : Int))]) rfl ?_
                                have H365 : Hp w [] [.blk p3 [.int .u8 0, .int .u8 0, .int .u8 0, .int .u64 0, .int .u64 0, .int .u8 0, .int .u8 0, .int .u8 0, .int .u8 0, .int .u8 0, .int .u8 0, .int .u8 0, .int .u8 0, .int .u8 0, .int .u8 0, .int .u8 0, .int .u8 0, .int .u8 0, .int .u8 0, .int .u8 0, .int .u8 0, .int .u8 0, .int .u8 0, .int .u8 0, .int .u8 0, .bool false, .string ⟨#[]⟩] 34, .blk p9 [.int .u8 (o.toNat : Int), .int .u8 (wh.toNat : Int), .int .u8 (t.toNat : Int), .int .u64 (am : Int), .int .u64 (id : Int), .int .u8 ((ad 0).toNat : Int), .int .u8 ((ad 1).toNat : Int), .int .u8 ((ad 2).toNat : Int), .int .u8 ((ad 3).toNat : Int), .int .u8 ((ad 4).toNat : Int), .int .u8 ((ad 5).toNat : Int), .int .u8 ((ad 6).toNat : Int), .int .u8 ((ad 7).toNat : Int), .int .u8 ((ad 8).toNat : Int), .int .u8 ((ad 9).toNat : Int), .int .u8 ((ad 10).toNat : Int), .int .u8 ((ad 11).toNat : Int), .int .u8 ((ad 12).toNat : Int), .int .u8 ((ad 13).toNat : Int), .int .u8 ((ad 14).toNat : Int), .int .u8 ((ad 15).toNat : Int), .int .u8 ((ad 16).toNat : Int), .int .u8 ((ad 17).toNat : Int), .int .u8 ((ad 18).toNat : Int), .int .u8 ((ad 19).toNat : Int), .bool ag, .string ⟨#[]⟩] 34, .row (some ⟨p38, 0, none⟩) 6 6 5 1 (by8 ([119, 116, 97, 105, 100, 103] : List UInt8))] w363 := H365
                                have hm5 := hi364
                                have hq5 : a6_ = 1 + n6_ := mv_same hn5 hm5.1 hq4
                                have hrp : RP xs o wh t am id ad ag 1 a1_ a2_ a3_ a4_ a5_ a6_ := ⟨ho, rfl, hm0, hm1, hm2, hm3, hm4, hm5⟩
                                refine G.seqJ (X := List UInt8) (fun bd => [(0, .slice A xs.length c), (2, pt p3 0), (4, pt p9 0)]) (fun bd w_ => ((¬ bitP o 6 → bd = []) ∧ bd.length ≤ 8192 ∧ (bitP o 6 → bd = xs.drop (a6_ + (cnN (xs.drop a6_) + 1)))) ∧ Hp w [] [.blk p3 [.int .u8 0, .int .u8 0, .int .u8 0, .int .u64 0, .int .u64 0, .int .u8 0, .int .u8 0, .int .u8 0, .int .u8 0, .int .u8 0, .int .u8 0, .int .u8 0, .int .u8 0, .int .u8 0, .int .u8 0, .int .u8 0, .int .u8 0, .int .u8 0, .int .u8 0, .int .u8 0, .int .u8 0, .int .u8 0, .int .u8 0, .int .u8 0, .int .u8 0, .bool false, .string ⟨#[]⟩] 34, .blk p9 [.int .u8 (o.toNat : Int), .int .u8 (wh.toNat : Int), .int .u8 (t.toNat : Int), .int .u64 (am : Int), .int .u64 (id : Int), .int .u8 ((ad 0).toNat : Int), .int .u8 ((ad 1).toNat : Int), .int .u8 ((ad 2).toNat : Int), .int .u8 ((ad 3).toNat : Int), .int .u8 ((ad 4).toNat : Int), .int .u8 ((ad 5).toNat : Int), .int .u8 ((ad 6).toNat : Int), .int .u8 ((ad 7).toNat : Int), .int .u8 ((ad 8).toNat : Int), .int .u8 ((ad 9).toNat : Int), .int .u8 ((ad 10).toNat : Int), .int .u8 ((ad 11).toNat : Int), .int .u8 ((ad 12).toNat : Int), .int .u8 ((ad 13).toNat : Int), .int .u8 ((ad 14).toNat : Int), .int .u8 ((ad 15).toNat : Int), .int .u8 ((ad 16).toNat : Int), .int .u8 ((ad 17).toNat : Int), .int .u8 ((ad 18).toNat : Int), .int .u8 ((ad 19).toNat : Int), .bool ag, .string (strOf bd)] 34, .row (some ⟨p38, 0, none⟩) 6 6 5 1 (by8 ([119, 116, 97, 105, 100, 103] : List UInt8))] w_) (fun J366 K367 hK368 => ?_) ?_
                                · skip
                                  refine G.seqK fun K369 hK370 => ?_
                                  refine G.region ?_
                                  refine GL.run (j := 1) 1 [0, 2, 4, 5, 131] [(0, .slice A xs.length c), (2, pt p3 0), (4, pt p9 0), (5, .int .i64 (a6_ : Int)), (131, pt p9 0)] (by kernel_rfl) rfl ?_
                                  refine GL.sem (j := 2) (H365.ld (o := 0) (ty := 5) (v := .int .u8 (o.toNat : Int)) 1 rfl (by kernel_rfl) rfl) [0, 2, 4, 5, 132] [(0, .slice A xs.length c), (2, pt p3 0), (4, pt p9 0), (5, .int .i64 (a6_ : Int)), (132, .int .u8 (o.toNat : Int))] (by kernel_rfl) (by kernel_rfl) rfl ?_
                                  refine GL.call (j := 3) (uses_calls o 98 w363) (by kernel_rfl) rfl (fun e_ w371 hR => ?_)
                                  obtain ⟨rfl, H373⟩ := hR
                                  have H372 : Hp w [] [.blk p3 [.int .u8 0, .int .u8 0, .int .u8 0, .int .u64 0, .int .u64 0, .int .u8 0, .int .u8 0, .int .u8 0, .int .u8 0, .int .u8 0, .int .u8 0, .int .u8 0, .int .u8 0, .int .u8 0, .int .u8 0, .int .u8 0, .int .u8 0, .int .u8 0, .int .u8 0, .int .u8 0, .int .u8 0, .int .u8 0, .int .u8 0, .int .u8 0, .int .u8 0, .bool false, .string ⟨#[]⟩] 34, .blk p9 [.int .u8 (o.toNat : Int), .int .u8 (wh.toNat : Int), .int .u8 (t.toNat : Int), .int .u64 (am : Int), .int .u64 (id : Int), .int .u8 ((ad 0).toNat : Int), .int .u8 ((ad 1).toNat : Int), .int .u8 ((ad 2).toNat : Int), .int .u8 ((ad 3).toNat : Int), .int .u8 ((ad 4).toNat : Int), .int .u8 ((ad 5).toNat : Int), .int .u8 ((ad 6).toNat : Int), .int .u8 ((ad 7).toNat : Int), .int .u8 ((ad 8).toNat : Int), .int .u8 ((ad 9).toNat : Int), .int .u8 ((ad 10).toNat : Int), .int .u8 ((ad 11).toNat : Int), .int .u8 ((ad 12).toNat : Int), .int .u8 ((ad 13).toNat : Int), .int .u8 ((ad 14).toNat : Int), .int .u8 ((ad 15).toNat : Int), .int .u8 ((ad 16).toNat : Int), .int .u8 ((ad 17).toNat : Int), .int .u8 ((ad 18).toNat : Int), .int .u8 ((ad 19).toNat : Int), .bool ag, .string ⟨#[]⟩] 34, .row (some ⟨p38, 0, none⟩) 6 6 5 1 (by8 ([119, 116, 97, 105, 100, 103] : List UInt8))] w371 := H365.callNil H373
                                  refine ⟨_, rfl, [0, 2, 4, 5, 133], [(0, .slice A xs.length c), (2, pt p3 0), (4, pt p9 0), (5, .int .i64 (a6_ : Int)), (133, .bool (hasF o.toNat 98))], by kernel_rfl, ?_⟩
                                  refine GL.k rfl hK370 (fun _ _ h => h) ?_
                                  cases hb374 : (hasF o.toNat 98)
                                  · skip
                                    have hbit6 : ¬ fm o.toNat / 2 ^ 6 % 2 = 1 := fun h_ => by rw [(has_bits _).2.2.2.2.2.2.1.2 h_] at hb374; cases hb374
                                    refine G.no rfl ?_
                                    refine G.skipK hK368 (fun _ _ h => h) ?_
                                    have H376 : Hp w [] [.blk p3 [.int .u8 0, .int .u8 0, .int .u8 0, .int .u64 0, .int .u64 0, .int .u8 0, .int .u8 0, .int .u8 0, .int .u8 0, .int .u8 0, .int .u8 0, .int .u8 0, .int .u8 0, .int .u8 0, .int .u8 0, .int .u8 0, .int .u8 0, .int .u8 0, .int .u8 0, .int .u8 0, .int .u8 0, .int .u8 0, .int .u8 0, .int .u8 0, .int .u8 0, .bool false, .string ⟨#[]⟩] 34, .blk p9 [.int .u8 (o.toNat : Int), .int .u8 (wh.toNat : Int), .int .u8 (t.toNat : Int), .int .u64 (am : Int), .int .u64 (id : Int), .int .u8 ((ad 0).toNat : Int), .int .u8 ((ad 1).toNat : Int), .int .u8 ((ad 2).toNat : Int), .int .u8 ((ad 3).toNat : Int), .int .u8 ((ad 4).toNat : Int), .int .u8 ((ad 5).toNat : Int), .int .u8 ((ad 6).toNat : Int), .int .u8 ((ad 7).toNat : Int), .int .u8 ((ad 8).toNat : Int), .int .u8 ((ad 9).toNat : Int), .int .u8 ((ad 10).toNat : Int), .int .u8 ((ad 11).toNat : Int), .int .u8 ((ad 12).toNat : Int), .int .u8 ((ad 13).toNat : Int), .int .u8 ((ad 14).toNat : Int), .int .u8 ((ad 15).toNat : Int), .int .u8 ((ad 16).toNat : Int), .int .u8 ((ad 17).toNat : Int), .int .u8 ((ad 18).toNat : Int), .int .u8 ((ad 19).toNat : Int), .bool ag, .string (strOf ([] : List UInt8))] 34, .row (some ⟨p38, 0, none⟩) 6 6 5 1 (by8 ([119, 116, 97, 105, 100, 103] : List UInt8))] w371 := H372
                                    refine G.fit [0, 2, 4] (M' := [(0, .slice A xs.length c), (2, pt p3 0), (4, pt p9 0)]) (by kernel_rfl) ?_
                                    exact J366 ([] : List UInt8) _ ⟨⟨fun _ => rfl, Nat.zero_le _, fun h_ => absurd h_ hbit6⟩, H376⟩
                                  · skip
                                    have hbit6 : fm o.toNat / 2 ^ 6 % 2 = 1 := (has_bits _).2.2.2.2.2.2.1.1 hb374
                                    refine G.yes rfl ?_
                                    refine G.seqK fun K377 hK378 => ?_
                                    refine G.region ?_
                                    refine GL.run (j := 2) 2 [0, 2, 4, 5, 135, 136] [(0, .slice A xs.length c), (2, pt p3 0), (4, pt p9 0), (5, .int .i64 (a6_ : Int)), (135, .slice A xs.length c), (136, .int .i64 (a6_ : Int))] (by kernel_rfl) rfl ?_
                                    refine GL.sem (j := 3) (run_sliceSl (P := Try.prog) (lo := some (.int .i64 (a6_ : Int))) (hi := none) (t := 26) (len := xs.length) (cap := c) (A := A) (l := a6_) (h := xs.length) (by kernel_rfl) (Or.inr ⟨_, _, rfl, rfl⟩) (Or.inl ⟨rfl, rfl⟩) (by first | rfl | omega | exact (cnt_length _).symm | (simp only [List.length_cons, List.length_nil, List.length_drop, List.length_take, List.length_append] <;> omega)) (by first | rfl | omega | exact (cnt_length _).symm | (simp only [List.length_cons, List.length_nil, List.length_drop, List.length_take, List.length_append] <;> omega))) [0, 2, 4, 5, 137] [(0, .slice A xs.length c), (2, pt p3 0), (4, pt p9 0), (5, .int .i64 (a6_ : Int)), (137, .slice (if c = a6_ then A else Option.map (fun x => Addr.add x a6_) A) (xs.length - a6_) (c - a6_))] (by kernel_rfl) (by kernel_rfl) rfl ?_
                                    refine GL.call (j := 4) (ReadCount_calls (xs.drop a6_) (if c = a6_ then A else Option.map (fun x => Addr.add x a6_) A) (xs.length - a6_) (c - a6_) w371 (RdS.drop8 (cap := c) (hx.hp H372) a6_ (cs := (xs.drop a6_)) (by omega) rfl) (by rw [List.length_drop]) (by omega) (by omega)) (by kernel_rfl) rfl (fun e_ w379 hR => ?_)
                                    obtain ⟨v_, s_, rfl, hvs_, H381⟩ := hR
                                    have H380 : Hp w [] [.blk p3 [.int .u8 0, .int .u8 0, .int .u8 0, .int .u64 0, .int .u64 0, .int .u8 0, .int .u8 0, .int .u8 0, .int .u8 0, .int .u8 0, .int .u8 0, .int .u8 0, .int .u8 0, .int .u8 0, .int .u8 0, .int .u8 0, .int .u8 0, .int .u8 0, .int .u8 0, .int .u8 0, .int .u8 0, .int .u8 0, .int .u8 0, .int .u8 0, .int .u8 0, .bool false, .string ⟨#[]⟩] 34, .blk p9 [.int .u8 (o.toNat : Int), .int .u8 (wh.toNat : Int), .int .u8 (t.toNat : Int), .int .u64 (am : Int), .int .u64 (id : Int), .int .u8 ((ad 0).toNat : Int), .int .u8 ((ad 1).toNat : Int), .int .u8 ((ad 2).toNat : Int), .int .u8 ((ad 3).toNat : Int), .int .u8 ((ad 4).toNat : Int), .int .u8 ((ad 5).toNat : Int), .int .u8 ((ad 6).toNat : Int), .int .u8 ((ad 7).toNat : Int), .int .u8 ((ad 8).toNat : Int), .int .u8 ((ad 9).toNat : Int), .int .u8 ((ad 10).toNat : Int), .int .u8 ((ad 11).toNat : Int), .int .u8 ((ad 12).toNat : Int), .int .u8 ((ad 13).toNat : Int), .int .u8 ((ad 14).toNat : Int), .int .u8 ((ad 15).toNat : Int), .int .u8 ((ad 16).toNat : Int), .int .u8 ((ad 17).toNat : Int), .int .u8 ((ad 18).toNat : Int), .int .u8 ((ad 19).toNat : Int), .bool ag, .string ⟨#[]⟩] 34, .row (some ⟨p38, 0, none⟩) 6 6 5 1 (by8 ([119, 116, 97, 105, 100, 103] : List UInt8))] w379 := H372.callNil H381
                                    refine ⟨_, rfl, [0, 2, 4, 5, 138], [(0, .slice A xs.length c), (2, pt p3 0), (4, pt p9 0), (5, .int .i64 (a6_ : Int)), (138, .tuple #[.int .u64 (v_ : Int), .int .i64 (s_ : Int), .bool (cnOK (xs.drop a6_))])], by kernel_rfl, ?_⟩
                                    refine GL.run (j := 11) 7 [0, 2, 4, 5, 10, 11, 12] [(0, .slice A xs.length c), (2, pt p3 0), (4, pt p9 0), (5, .int .i64 (a6_ : Int)), (10, .int .u64 (v_ : Int)), (11, .int .i64 (s_ : Int)), (12, .bool (cnOK (xs.drop a6_)))] (by kernel_rfl) rfl ?_
                                    refine GL.k rfl hK378 (fun _ _ h => h) ?_
                                    refine G.seqK fun K382 hK383 => ?_
                                    refine G.seqK fun K384 hK385 => ?_
                                    refine G.region ?_
                                    refine GL.run (j := 3) 3 [0, 2, 4, 5, 10, 11, 144] [(0, .slice A xs.length c), (2, pt p3 0), (4, pt p9 0), (5, .int .i64 (a6_ : Int)), (10, .int .u64 (v_ : Int)), (11, .int .i64 (s_ : Int)), (144, .bool (!(cnOK (xs.drop a6_))))] (by kernel_rfl) rfl ?_
                                    cases hb386 : (cnOK (xs.drop a6_))
                                    · skip
                                      have hbad : ¬ (cnOK (xs.drop a6_) = true ∧ cnX (xs.drop a6_) ≤ 8192 ∧ xs.length = a6_ + (cnN (xs.drop a6_) + 1) + cnX (xs.drop a6_)) := fun h_ => by rw [hb386] at h_; cases h_.1
                                      refine GL.run (j := 17) 14 [0, 2, 4, 5, 11, 158] [(0, .slice A xs.length c), (2, pt p3 0), (4, pt p9 0), (5, .int .i64 (a6_ : Int)), (11, .int .i64 (s_ : Int)), (158, .bool true)] (by kernel_rfl) rfl ?_
                                      refine GL.k rfl hK385 (fun _ _ h => h) ?_
                                      refine G.yes rfl ?_
                                      refine G.seqK fun K387 hK388 => ?_
                                      refine G.region ?_
                                      refine GL.run (j := 1) 1 [2, 159] [(2, pt p3 0), (159, .agg #[.int .u8 0, .int .u8 0, .int .u8 0, .int .u64 0, .int .u64 0, .int .u8 0, .int .u8 0, .int .u8 0, .int .u8 0, .int .u8 0, .int .u8 0, .int .u8 0, .int .u8 0, .int .u8 0, .int .u8 0, .int .u8 0, .int .u8 0, .int .u8 0, .int .u8 0, .int .u8 0, .int .u8 0, .int .u8 0, .int .u8 0, .int .u8 0, .int .u8 0, .bool false, .string ⟨#[]⟩])] (by kernel_rfl) rfl ?_
                                      obtain ⟨w389, r390, H391⟩ := H380.stA (P := Try.prog) (o := 0) (vs := [.int .u8 0, .int .u8 0, .int .u8 0, .int .u64 0, .int .u64 0, .int .u8 0, .int .u8 0, .int .u8 0, .int .u8 0, .int .u8 0, .int .u8 0, .int .u8 0, .int .u8 0, .int .u8 0, .int .u8 0, .int .u8 0, .int .u8 0, .int .u8 0, .int .u8 0, .int .u8 0, .int .u8 0, .int .u8 0, .int .u8 0, .int .u8 0, .int .u8 0, .bool false, .string ⟨#[]⟩]) (ty := 34) (m := 27) 0 rfl (by kernel_rfl) rfl (by simp) (by simp [Value.oneCell'])
                                      have H391 : Hp w [] [.blk p3 [.int .u8 0, .int .u8 0, .int .u8 0, .int .u64 0, .int .u64 0, .int .u8 0, .int .u8 0, .int .u8 0, .int .u8 0, .int .u8 0, .int .u8 0, .int .u8 0, .int .u8 0, .int .u8 0, .int .u8 0, .int .u8 0, .int .u8 0, .int .u8 0, .int .u8 0, .int .u8 0, .int .u8 0, .int .u8 0, .int .u8 0, .int .u8 0, .int .u8 0, .bool false, .string ⟨#[]⟩] 34, .blk p9 [.int .u8 (o.toNat : Int), .int .u8 (wh.toNat : Int), .int .u8 (t.toNat : Int), .int .u64 (am : Int), .int .u64 (id : Int), .int .u8 ((ad 0).toNat : Int), .int .u8 ((ad 1).toNat : Int), .int .u8 ((ad 2).toNat : Int), .int .u8 ((ad 3).toNat : Int), .int .u8 ((ad 4).toNat : Int), .int .u8 ((ad 5).toNat : Int), .int .u8 ((ad 6).toNat : Int), .int .u8 ((ad 7).toNat : Int), .int .u8 ((ad 8).toNat : Int), .int .u8 ((ad 9).toNat : Int), .int .u8 ((ad 10).toNat : Int), .int .u8 ((ad 11).toNat : Int), .int .u8 ((ad 12).toNat : Int), .int .u8 ((ad 13).toNat : Int), .int .u8 ((ad 14).toNat : Int), .int .u8 ((ad 15).toNat : Int), .int .u8 ((ad 16).toNat : Int), .int .u8 ((ad 17).toNat : Int), .int .u8 ((ad 18).toNat : Int), .int .u8 ((ad 19).toNat : Int), .bool ag, .string ⟨#[]⟩] 34, .row (some ⟨p38, 0, none⟩) 6 6 5 1 (by8 ([119, 116, 97, 105, 100, 103] : List UInt8))] w389 := H391
                                      refine GL.semU (j := 2) r390 [2] [(2, pt p3 0)] (by kernel_rfl) rfl rfl rfl ?_
                                      refine GL.run (j := 3) 1 [2, 3] [(2, pt p3 0), (3, .bool false)] (by kernel_rfl) rfl ?_
                                      refine GL.k rfl hK388 (fun _ _ h => h) ?_
                                      refine G.ret ?_
                                      intro F_ hF_ hM_
                                      refine hRet _ _ (bodyPost_2 rfl (RV.cell rfl (H391.ldA (o := 0) (ty := 34) (m := 27) (sub := [.int .u8 0, .int .u8 0, .int .u8 0, .int .u64 0, .int .u64 0, .int .u8 0, .int .u8 0, .int .u8 0, .int .u8 0, .int .u8 0, .int .u8 0, .int .u8 0, .int .u8 0, .int .u8 0, .int .u8 0, .int .u8 0, .int .u8 0, .int .u8 0, .int .u8 0, .int .u8 0, .int .u8 0, .int .u8 0, .int .u8 0, .int .u8 0, .int .u8 0, .bool false, .string ⟨#[]⟩]) 0 rfl (by kernel_rfl) rfl rfl)) (RV.tmp rfl) ?_ F_ hF_ hM_)
                                      have hno : ∀ (o' w' t' : UInt8) (am' id' : Nat) (ad' : Nat → UInt8) (ag' : Bool) (bd' : List UInt8), cmdE o' w' t' am' id' ad' ag' bd' = 0 → xs ≠ cmdB o' w' t' am' id' ad' ag' bd' := by
                                        intro o' w' t' am' id' ad' ag' bd' he hx
                                        obtain ⟨X0, X1, X2, X3, X4, X5, X6, hp⟩ := prt_of he hx
                                        have hxl := congrArg List.length hp.1
                                        rw [List.length_cons] at hxl
                                        have hoo : o = o' := by rw [ho, hp.1]; rfl
                                        subst hoo
                                        obtain ⟨b1, b2, b3, _⟩ := hrp.body hp hbit6
                                        exact hbad ⟨b1, b2, b3⟩
                                      exact ⟨0, 0, 0, 0, 0, fun _ => 0, false, [], false, rfl, H391.sub (List.nil_sublist _), by decide, by decide, by decide, (fun h => by cases h), fun _ => hno⟩
                                    · skip
                                      have hvs := hvs_ hb386
                                      have hsb := cn_in hb386
                                      rw [← hvs.2, List.length_drop] at hsb
                                      refine GL.run (j := 7) 4 [0, 2, 4, 5, 10, 11, 148] [(0, .slice A xs.length c), (2, pt p3 0), (4, pt p9 0), (5, .int .i64 (a6_ : Int)), (10, .int .u64 (v_ : Int)), (11, .int .i64 (s_ : Int)), (148, .bool (decide (8192 < (v_ : Int))))] (by kernel_rfl) rfl ?_
                                      cases hb392 : (decide (8192 < (v_ : Int)))
                                      · skip
                                        have hb392f := of_decide_eq_false hb392
                                        refine GL.run (j := 17) 10 [0, 2, 4, 5, 11, 158] [(0, .slice A xs.length c), (2, pt p3 0), (4, pt p9 0), (5, .int .i64 (a6_ : Int)), (11, .int .i64 (s_ : Int)), (158, .bool ((xs.length : Int) != (IntKind.i64.wrap ((IntKind.i64.wrap ((a6_ : Int) + (s_ : Int))) + (IntKind.i64.wrap (v_ : Int))))))] (by kernel_rfl) rfl ?_
                                        have e393 : (IntKind.i64.wrap ((a6_ : Int) + (s_ : Int))) = ((a6_ + s_ : Nat) : Int) := by rw [in_i64 (by omega)]; omega
                                        have e394 : (IntKind.i64.wrap (v_ : Int)) = (v_ : Int) := in_i64 (by omega)
                                        have e395 : (IntKind.i64.wrap (((a6_ + s_ : Nat) : Int) + (v_ : Int))) = (((a6_ + s_) + v_ : Nat) : Int) := by rw [in_i64 (by omega)]; omega
                                        refine GL.eq (M' := [(0, .slice A xs.length c), (2, pt p3 0), (4, pt p9 0), (5, .int .i64 (a6_ : Int)), (11, .int .i64 (s_ : Int)), (158, .bool ((xs.length : Int) != (((a6_ + s_) + v_ : Nat) : Int)))]) (by rw [e393, e394, e395]) ?_
                                        clear e393 e394 e395
                                        refine GL.k rfl hK385 (fun _ _ h => h) ?_
                                        cases hb396 : ((xs.length : Int) != (((a6_ + s_) + v_ : Nat) : Int))
                                        · skip
                                          have hb396f : (xs.length : Int) = (((a6_ + s_) + v_ : Nat) : Int) := bne_eq_false_iff_eq.1 hb396
                                          refine G.no rfl ?_
                                          refine G.skipK hK383 (fun _ _ h => h) ?_
                                          refine G.region ?_
                                          refine GL.run (j := 4) 4 [0, 2, 4, 160, 163] [(0, .slice A xs.length c), (2, pt p3 0), (4, pt p9 0), (160, .slice A xs.length c), (163, .int .i64 (IntKind.i64.wrap ((a6_ : Int) + (s_ : Int))))] (by kernel_rfl) rfl ?_
                                          have e397 : (IntKind.i64.wrap ((a6_ : Int) + (s_ : Int))) = ((a6_ + s_ : Nat) : Int) := by rw [in_i64 (by omega)]; omega
                                          refine GL.eq (M' := [(0, .slice A xs.length c), (2, pt p3 0), (4, pt p9 0), (160, .slice A xs.length c), (163, .int .i64 ((a6_ + s_ : Nat) : Int))]) (by rw [e397]) ?_
                                          clear e397
                                          refine GL.sem (j := 5) (run_sliceSl (P := Try.prog) (lo := some (.int .i64 ((a6_ + s_ : Nat) : Int))) (hi := none) (t := 26) (len := xs.length) (cap := c) (A := A) (l := a6_ + s_) (h := xs.length) (by kernel_rfl) (Or.inr ⟨_, _, rfl, rfl⟩) (Or.inl ⟨rfl, rfl⟩) (by first | rfl | omega | exact (cnt_length _).symm | (simp only [List.length_cons, List.length_nil, List.length_drop, List.length_take, List.length_append] <;> omega)) (by first | rfl | omega | exact (cnt_length _).symm | (simp only [List.length_cons, List.length_nil, List.length_drop, List.length_take, List.length_append] <;> omega))) [0, 2, 4, 164] [(0, .slice A xs.length c), (2, pt p3 0), (4, pt p9 0), (164, .slice (if c = (a6_ + s_) then A else Option.map (fun x => Addr.add x (a6_ + s_)) A) (xs.length - (a6_ + s_)) (c - (a6_ + s_)))] (by kernel_rfl) (by kernel_rfl) rfl ?_
                                          refine GL.sem (j := 6) (run_toStr (P := Try.prog) (src := 26) (dst := 9) (A := (if c = (a6_ + s_) then A else Option.map (fun x => Addr.add x (a6_ + s_)) A)) (bs := (xs.drop (a6_ + s_))) (n := (xs.length - (a6_ + s_))) (c := (c - (a6_ + s_))) (by kernel_rfl) (by kernel_rfl) (RdS.drop8 (cap := c) (hx.hp H380) (a6_ + s_) (cs := (xs.drop (a6_ + s_))) (by omega) rfl) (by first | rfl | omega | exact (cnt_length _).symm | (simp only [List.length_cons, List.length_nil, List.length_drop, List.length_take, List.length_append] <;> omega))) [0, 2, 4, 165] [(0, .slice A xs.length c), (2, pt p3 0), (4, pt p9 0), (165, .string (strOf (xs.drop (a6_ + s_))))] (by kernel_rfl) (by kernel_rfl) rfl ?_
                                          refine GL.run (j := 7) 1 [0, 2, 4, 165, 166] [(0, .slice A xs.length c), (2, pt p3 0), (4, pt p9 0), (165, .string (strOf (xs.drop (a6_ + s_)))), (166, pt p9 26)] (by kernel_rfl) rfl ?_
                                          obtain ⟨w398, r399, H400⟩ := H380.st (P := Try.prog) (o := 26) (ty := 9) (v := .string (strOf (xs.drop (a6_ + s_)))) 1 rfl (by kernel_rfl) (by simp) rfl
                                          have H400 : Hp w [] [.blk p3 [.int .u8 0, .int .u8 0, .int .u8 0, .int .u64 0, .int .u64 0, .int .u8 0, .int .u8 0, .int .u8 0, .int .u8 0, .int .u8 0, .int .u8 0, .int .u8 0, .int .u8 0, .int .u8 0, .int .u8 0, .int .u8 0, .int .u8 0, .int .u8 0, .int .u8 0, .int .u8 0, .int .u8 0, .int .u8 0, .int .u8 0, .int .u8 0, .int .u8 0, .bool false, .string ⟨#[]⟩] 34, .blk p9 [.int .u8 (o.toNat : Int), .int .u8 (wh.toNat : Int), .int .u8 (t.toNat : Int), .int .u64 (am : Int), .int .u64 (id : Int), .int .u8 ((ad 0).toNat : Int), .int .u8 ((ad 1).toNat : Int), .int .u8 ((ad 2).toNat : Int), .int .u8 ((ad 3).toNat : Int), .int .u8 ((ad 4).toNat : Int), .int .u8 ((ad 5).toNat : Int), .int .u8 ((ad 6).toNat : Int), .int .u8 ((ad 7).toNat : Int), .int .u8 ((ad 8).toNat : Int), .int .u8 ((ad 9).toNat : Int), .int .u8 ((ad 10).toNat : Int), .int .u8 ((ad 11).toNat : Int), .int .u8 ((ad 12).toNat : Int), .int .u8 ((ad 13).toNat : Int), .int .u8 ((ad 14).toNat : Int), .int .u8 ((ad 15).toNat : Int), .int .u8 ((ad 16).toNat : Int), .int .u8 ((ad 17).toNat : Int), .int .u8 ((ad 18).toNat : Int), .int .u8 ((ad 19).toNat : Int), .bool ag, .string (strOf (xs.drop (a6_ + s_)))] 34, .row (some ⟨p38, 0, none⟩) 6 6 5 1 (by8 ([119, 116, 97, 105, 100, 103] : List UInt8))] w398 := H400
                                          refine GL.semU (j := 8) r399 [0, 2, 4] [(0, .slice A xs.length c), (2, pt p3 0), (4, pt p9 0)] (by kernel_rfl) rfl rfl rfl ?_
                                          refine GL.k rfl hK368 (fun _ _ h => h) ?_
                                          have H402 : Hp w [] [.blk p3 [.int .u8 0, .int .u8 0, .int .u8 0, .int .u64 0, .int .u64 0, .int .u8 0, .int .u8 0, .int .u8 0, .int .u8 0, .int .u8 0, .int .u8 0, .int .u8 0, .int .u8 0, .int .u8 0, .int .u8 0, .int .u8 0, .int .u8 0, .int .u8 0, .int .u8 0, .int .u8 0, .int .u8 0, .int .u8 0, .int .u8 0, .int .u8 0, .int .u8 0, .bool false, .string ⟨#[]⟩] 34, .blk p9 [.int .u8 (o.toNat : Int), .int .u8 (wh.toNat : Int), .int .u8 (t.toNat : Int), .int .u64 (am : Int), .int .u64 (id : Int), .int .u8 ((ad 0).toNat : Int), .int .u8 ((ad 1).toNat : Int), .int .u8 ((ad 2).toNat : Int), .int .u8 ((ad 3).toNat : Int), .int .u8 ((ad 4).toNat : Int), .int .u8 ((ad 5).toNat : Int), .int .u8 ((ad 6).toNat : Int), .int .u8 ((ad 7).toNat : Int), .int .u8 ((ad 8).toNat : Int), .int .u8 ((ad 9).toNat : Int), .int .u8 ((ad 10).toNat : Int), .int .u8 ((ad 11).toNat : Int), .int .u8 ((ad 12).toNat : Int), .int .u8 ((ad 13).toNat : Int), .int .u8 ((ad 14).toNat : Int), .int .u8 ((ad 15).toNat : Int), .int .u8 ((ad 16).toNat : Int), .int .u8 ((ad 17).toNat : Int), .int .u8 ((ad 18).toNat : Int), .int .u8 ((ad 19).toNat : Int), .bool ag, .string (strOf (xs.drop (a6_ + s_)))] 34, .row (some ⟨p38, 0, none⟩) 6 6 5 1 (by8 ([119, 116, 97, 105, 100, 103] : List UInt8))] w398 := H400
                                          refine G.fit [0, 2, 4] (M' := [(0, .slice A xs.length c), (2, pt p3 0), (4, pt p9 0)]) (by kernel_rfl) ?_
                                          exact J366 (xs.drop (a6_ + s_)) _ ⟨⟨fun h_ => absurd hbit6 h_, by rw [List.length_drop]; omega, fun _ => by rw [hvs.2]⟩, H402⟩
                                        · skip
                                          have hb396f : (xs.length : Int) ≠ (((a6_ + s_) + v_ : Nat) : Int) := bne_iff_ne.1 hb396
                                          have hbad : ¬ (cnOK (xs.drop a6_) = true ∧ cnX (xs.drop a6_) ≤ 8192 ∧ xs.length = a6_ + (cnN (xs.drop a6_) + 1) + cnX (xs.drop a6_)) := by rw [← hvs.1, ← hvs.2]; omega
                                          refine G.yes rfl ?_
                                          refine G.seqK fun K403 hK404 => ?_
                                          refine G.region ?_
                                          refine GL.run (j := 1) 1 [2, 159] [(2, pt p3 0), (159, .agg #[.int .u8 0, .int .u8 0, .int .u8 0, .int .u64 0, .int .u64 0, .int .u8 0, .int .u8 0, .int .u8 0, .int .u8 0, .int .u8 0, .int .u8 0, .int .u8 0, .int .u8 0, .int .u8 0, .int .u8 0, .int .u8 0, .int .u8 0, .int .u8 0, .int .u8 0, .int .u8 0, .int .u8 0, .int .u8 0, .int .u8 0, .int .u8 0, .int .u8 0, .bool false, .string ⟨#[]⟩])] (by kernel_rfl) rfl ?_
                                          obtain ⟨w405, r406, H407⟩ := H380.stA (P := Try.prog) (o := 0) (vs := [.int .u8 0, .int .u8 0, .int .u8 0, .int .u64 0, .int .u64 0, .int .u8 0, .int .u8 0, .int .u8 0, .int .u8 0, .int .u8 0, .int .u8 0, .int .u8 0, .int .u8 0, .int .u8 0, .int .u8 0, .int .u8 0, .int .u8 0, .int .u8 0, .int .u8 0, .int .u8 0, .int .u8 0, .int .u8 0, .int .u8 0, .int .u8 0, .int .u8 0, .bool false, .string ⟨#[]⟩]) (ty := 34) (m := 27) 0 rfl (by kernel_rfl) rfl (by simp) (by simp [Value.oneCell'])
                                          have H407 : Hp w [] [.blk p3 [.int .u8 0, .int .u8 0, .int .u8 0, .int .u64 0, .int .u64 0, .int .u8 0, .int .u8 0, .int .u8 0, .int .u8 0, .int .u8 0, .int .u8 0, .int .u8 0, .int .u8 0, .int .u8 0, .int .u8 0, .int .u8 0, .int .u8 0, .int .u8 0, .int .u8 0, .int .u8 0, .int .u8 0, .int .u8 0, .int .u8 0, .int .u8 0, .int .u8 0, .bool false, .string ⟨#[]⟩] 34, .blk p9 [.int .u8 (o.toNat : Int), .int .u8 (wh.toNat : Int), .int .u8 (t.toNat : Int), .int .u64 (am : Int), .int .u64 (id : Int), .int .u8 ((ad 0).toNat : Int), .int .u8 ((ad 1).toNat : Int), .int .u8 ((ad 2).toNat : Int), .int .u8 ((ad 3).toNat : Int), .int .u8 ((ad 4).toNat : Int), .int .u8 ((ad 5).toNat : Int), .int .u8 ((ad 6).toNat : Int), .int .u8 ((ad 7).toNat : Int), .int .u8 ((ad 8).toNat : Int), .int .u8 ((ad 9).toNat : Int), .int .u8 ((ad 10).toNat : Int), .int .u8 ((ad 11).toNat : Int), .int .u8 ((ad 12).toNat : Int), .int .u8 ((ad 13).toNat : Int), .int .u8 ((ad 14).toNat : Int), .int .u8 ((ad 15).toNat : Int), .int .u8 ((ad 16).toNat : Int), .int .u8 ((ad 17).toNat : Int), .int .u8 ((ad 18).toNat : Int), .int .u8 ((ad 19).toNat : Int), .bool ag, .string ⟨#[]⟩] 34, .row (some ⟨p38, 0, none⟩) 6 6 5 1 (by8 ([119, 116, 97, 105, 100, 103] : List UInt8))] w405 := H407
                                          refine GL.semU (j := 2) r406 [2] [(2, pt p3 0)] (by kernel_rfl) rfl rfl rfl ?_
                                          refine GL.run (j := 3) 1 [2, 3] [(2, pt p3 0), (3, .bool false)] (by kernel_rfl) rfl ?_
                                          refine GL.k rfl hK404 (fun _ _ h => h) ?_
                                          refine G.ret ?_
                                          intro F_ hF_ hM_
                                          refine hRet _ _ (bodyPost_2 rfl (RV.cell rfl (H407.ldA (o := 0) (ty := 34) (m := 27) (sub := [.int .u8 0, .int .u8 0, .int .u8 0, .int .u64 0, .int .u64 0, .int .u8 0, .int .u8 0, .int .u8 0, .int .u8 0, .int .u8 0, .int .u8 0, .int .u8 0, .int .u8 0, .int .u8 0, .int .u8 0, .int .u8 0, .int .u8 0, .int .u8 0, .int .u8 0, .int .u8 0, .int .u8 0, .int .u8 0, .int .u8 0, .int .u8 0, .int .u8 0, .bool false, .string ⟨#[]⟩]) 0 rfl (by kernel_rfl) rfl rfl)) (RV.tmp rfl) ?_ F_ hF_ hM_)
                                          have hno : ∀ (o' w' t' : UInt8) (am' id' : Nat) (ad' : Nat → UInt8) (ag' : Bool) (bd' : List UInt8), cmdE o' w' t' am' id' ad' ag' bd' = 0 → xs ≠ cmdB o' w' t' am' id' ad' ag' bd' := by
                                            intro o' w' t' am' id' ad' ag' bd' he hx
                                            obtain ⟨X0, X1, X2, X3, X4, X5, X6, hp⟩ := prt_of he hx
                                            have hxl := congrArg List.length hp.1
                                            rw [List.length_cons] at hxl
                                            have hoo : o = o' := by rw [ho, hp.1]; rfl
                                            subst hoo
                                            obtain ⟨b1, b2, b3, _⟩ := hrp.body hp hbit6
                                            exact hbad ⟨b1, b2, b3⟩
                                          exact ⟨0, 0, 0, 0, 0, fun _ => 0, false, [], false, rfl, H407.sub (List.nil_sublist _), by decide, by decide, by decide, (fun h => by cases h), fun _ => hno⟩
                                      · skip
                                        have hb392f := of_decide_eq_true hb392
                                        have hbad : ¬ (cnOK (xs.drop a6_) = true ∧ cnX (xs.drop a6_) ≤ 8192 ∧ xs.length = a6_ + (cnN (xs.drop a6_) + 1) + cnX (xs.drop a6_)) := by rw [← hvs.1]; omega
                                        refine GL.run (j := 17) 10 [0, 2, 4, 5, 11, 158] [(0, .slice A xs.length c), (2, pt p3 0), (4, pt p9 0), (5, .int .i64 (a6_ : Int)), (11, .int .i64 (s_ : Int)), (158, .bool true)] (by kernel_rfl) rfl ?_
                                        refine GL.k rfl hK385 (fun _ _ h => h) ?_
                                        refine G.yes rfl ?_
                                        refine G.seqK fun K408 hK409 => ?_
                                        refine G.region ?_
                                        refine GL.run (j := 1) 1 [2, 159] [(2, pt p3 0), (159, .agg #[.int .u8 0, .int .u8 0, .int .u8 0, .int .u64 0, .int .u64 0, .int .u8 0, .int .u8 0, .int .u8 0, .int .u8 0, .int .u8 0, .int .u8 0, .int .u8 0, .int .u8 0, .int .u8 0, .int .u8 0, .int .u8 0, .int .u8 0, .int .u8 0, .int .u8 0, .int .u8 0, .int .u8 0, .int .u8 0, .int .u8 0, .int .u8 0, .int .u8 0, .bool false, .string ⟨#[]⟩])] (by kernel_rfl) rfl ?_
                                        obtain ⟨w410, r411, H412⟩ := H380.stA (P := Try.prog) (o := 0) (vs := [.int .u8 0, .int .u8 0, .int .u8 0, .int .u64 0, .int .u64 0, .int .u8 0, .int .u8 0, .int .u8 0, .int .u8 0, .int .u8 0, .int .u8 0, .int .u8 0, .int .u8 0, .int .u8 0, .int .u8 0, .int .u8 0, .int .u8 0, .int .u8 0, .int .u8 0, .int .u8 0, .int .u8 0, .int .u8 0, .int .u8 0, .int .u8 0, .int .u8 0, .bool false, .string ⟨#[]⟩]) (ty := 34) (m := 27) 0 rfl (by kernel_rfl) rfl (by simp) (by simp [Value.oneCell'])
                                        have H412 : Hp w [] [.blk p3 [.int .u8 0, .int .u8 0, .int .u8 0, .int .u64 0, .int .u64 0, .int .u8 0, .int .u8 0, .int .u8 0, .int .u8 0, .int .u8 0, .int .u8 0, .int .u8 0, .int .u8 0, .int .u8 0, .int .u8 0, .int .u8 0, .int .u8 0, .int .u8 0, .int .u8 0, .int .u8 0, .int .u8 0, .int .u8 0, .int .u8 0, .int .u8 0, .int .u8 0, .bool false, .string ⟨#[]⟩] 34, .blk p9 [.int .u8 (o.toNat : Int), .int .u8 (wh.toNat : Int), .int .u8 (t.toNat : Int), .int .u64 (am : Int), .int .u64 (id : Int), .int .u8 ((ad 0).toNat : Int), .int .u8 ((ad 1).toNat : Int), .int .u8 ((ad 2).toNat : Int), .int .u8 ((ad 3).toNat : Int), .int .u8 ((ad 4).toNat : Int), .int .u8 ((ad 5).toNat : Int), .int .u8 ((ad 6).toNat : Int), .int .u8 ((ad 7).toNat : Int), .int .u8 ((ad 8).toNat : Int), .int .u8 ((ad 9).toNat : Int), .int .u8 ((ad 10).toNat : Int), .int .u8 ((ad 11).toNat : Int), .int .u8 ((ad 12).toNat : Int), .int .u8 ((ad 13).toNat : Int), .int .u8 ((ad 14).toNat : Int), .int .u8 ((ad 15).toNat : Int), .int .u8 ((ad 16).toNat : Int), .int .u8 ((ad 17).toNat : Int), .int .u8 ((ad 18).toNat : Int), .int .u8 ((ad 19).toNat : Int), .bool ag, .string ⟨#[]⟩] 34, .row (some ⟨p38, 0, none⟩) 6 6 5 1 (by8 ([119, 116, 97, 105, 100, 103] : List UInt8))] w410 := H412
                                        refine GL.semU (j := 2) r411 [2] [(2, pt p3 0)] (by kernel_rfl) rfl rfl rfl ?_
                                        refine GL.run (j := 3) 1 [2, 3] [(2, pt p3 0), (3, .bool false)] (by kernel_rfl) rfl ?_
                                        refine GL.k rfl hK409 (fun _ _ h => h) ?_
                                        refine G.ret ?_
                                        intro F_ hF_ hM_
                                        refine hRet _ _ (bodyPost_2 rfl (RV.cell rfl (H412.ldA (o := 0) (ty := 34) (m := 27) (sub := [.int .u8 0, .int .u8 0, .int .u8 0, .int .u64 0, .int .u64 0, .int .u8 0, .int .u8 0, .int .u8 0, .int .u8 0, .int .u8 0, .int .u8 0, .int .u8 0, .int .u8 0, .int .u8 0, .int .u8 0, .int .u8 0, .int .u8 0, .int .u8 0, .int .u8 0, .int .u8 0, .int .u8 0, .int .u8 0, .int .u8 0, .int .u8 0, .int .u8 0, .bool false, .string ⟨#[]⟩]) 0 rfl (by kernel_rfl) rfl rfl)) (RV.tmp rfl) ?_ F_ hF_ hM_)
                                        have hno : ∀ (o' w' t' : UInt8) (am' id' : Nat) (ad' : Nat → UInt8) (ag' : Bool) (bd' : List UInt8), cmdE o' w' t' am' id' ad' ag' bd' = 0 → xs ≠ cmdB o' w' t' am' id' ad' ag' bd' := by
                                          intro o' w' t' am' id' ad' ag' bd' he hx
                                          obtain ⟨X0, X1, X2, X3, X4, X5, X6, hp⟩ := prt_of he hx
                                          have hxl := congrArg List.length hp.1
                                          rw [List.length_cons] at hxl
                                          have hoo : o = o' := by rw [ho, hp.1]; rfl
                                          subst hoo
                                          obtain ⟨b1, b2, b3, _⟩ := hrp.body hp hbit6
                                          exact hbad ⟨b1, b2, b3⟩
                                        exact ⟨0, 0, 0, 0, 0, fun _ => 0, false, [], false, rfl, H412.sub (List.nil_sublist _), by decide, by decide, by decide, (fun h => by cases h), fun _ => hno⟩
                                · skip
                                  rintro bd w413 ⟨hi414, H415⟩
                                  refine G.eq (M' := [(0, .slice A xs.length c), (2, pt p3 0), (4, pt p9 0)]) rfl ?_
                                  have H415 : Hp w [] [.blk p3 [.int .u8 0, .int .u8 0, .int .u8 0, .int .u64 0, .int .u64 0, .int .u8 0, .int .u8 0, .int .u8 0, .int .u8 0, .int .u8 0, .int .u8 0, .int .u8 0, .int .u8 0, .int .u8 0, .int .u8 0, .int .u8 0, .int .u8 0, .int .u8 0, .int .u8 0, .int .u8 0, .int .u8 0, .int .u8 0, .int .u8 0, .int .u8 0, .int .u8 0, .bool false, .string ⟨#[]⟩] 34, .blk p9 [.int .u8 (o.toNat : Int), .int .u8 (wh.toNat : Int), .int .u8 (t.toNat : Int), .int .u64 (am : Int), .int .u64 (id : Int), .int .u8 ((ad 0).toNat : Int), .int .u8 ((ad 1).toNat : Int), .int .u8 ((ad 2).toNat : Int), .int .u8 ((ad 3).toNat : Int), .int .u8 ((ad 4).toNat : Int), .int .u8 ((ad 5).toNat : Int), .int .u8 ((ad 6).toNat : Int), .int .u8 ((ad 7).toNat : Int), .int .u8 ((ad 8).toNat : Int), .int .u8 ((ad 9).toNat : Int), .int .u8 ((ad 10).toNat : Int), .int .u8 ((ad 11).toNat : Int), .int .u8 ((ad 12).toNat : Int), .int .u8 ((ad 13).toNat : Int), .int .u8 ((ad 14).toNat : Int), .int .u8 ((ad 15).toNat : Int), .int .u8 ((ad 16).toNat : Int), .int .u8 ((ad 17).toNat : Int), .int .u8 ((ad 18).toNat : Int), .int .u8 ((ad 19).toNat : Int), .bool ag, .string (strOf bd)] 34, .row (some ⟨p38, 0, none⟩) 6 6 5 1 (by8 ([119, 116, 97, 105, 100, 103] : List UInt8))] w413 := H415
                                  obtain ⟨hbd0, hbd9, hbd1⟩ := hi414
                                  refine G.seqK fun K416 hK417 => ?_
                                  refine G.heldP (Hp w [] [.blk p9 [.int .u8 (o.toNat : Int), .int .u8 (wh.toNat : Int), .int .u8 (t.toNat : Int), .int .u64 (am : Int), .int .u64 (id : Int), .int .u8 ((ad 0).toNat : Int), .int .u8 ((ad 1).toNat : Int), .int .u8 ((ad 2).toNat : Int), .int .u8 ((ad 3).toNat : Int), .int .u8 ((ad 4).toNat : Int), .int .u8 ((ad 5).toNat : Int), .int .u8 ((ad 6).toNat : Int), .int .u8 ((ad 7).toNat : Int), .int .u8 ((ad 8).toNat : Int), .int .u8 ((ad 9).toNat : Int), .int .u8 ((ad 10).toNat : Int), .int .u8 ((ad 11).toNat : Int), .int .u8 ((ad 12).toNat : Int), .int .u8 ((ad 13).toNat : Int), .int .u8 ((ad 14).toNat : Int), .int .u8 ((ad 15).toNat : Int), .int .u8 ((ad 16).toNat : Int), .int .u8 ((ad 17).toNat : Int), .int .u8 ((ad 18).toNat : Int), .int .u8 ((ad 19).toNat : Int), .bool ag, .string (strOf bd)] 34, .row (some ⟨p38, 0, none⟩) 6 6 5 1 (by8 ([119, 116, 97, 105, 100, 103] : List UInt8))]) (by kernel_rfl) (by kernel_rfl) (fun c_ a_ d_ v_ w_ h_ => hPan c_ a_ d_ v_ w_ h_) ?_
                                  have H418 := H415.drew
                                  generalize ({ w413 with drawn := w413.drawn + 1 } : World) = w419 at H418 ⊢
                                  have hS420 : Hp w [] [.blk p9 [.int .u8 (o.toNat : Int), .int .u8 (wh.toNat : Int), .int .u8 (t.toNat : Int), .int .u64 (am : Int), .int .u64 (id : Int), .int .u8 ((ad 0).toNat : Int), .int .u8 ((ad 1).toNat : Int), .int .u8 ((ad 2).toNat : Int), .int .u8 ((ad 3).toNat : Int), .int .u8 ((ad 4).toNat : Int), .int .u8 ((ad 5).toNat : Int), .int .u8 ((ad 6).toNat : Int), .int .u8 ((ad 7).toNat : Int), .int .u8 ((ad 8).toNat : Int), .int .u8 ((ad 9).toNat : Int), .int .u8 ((ad 10).toNat : Int), .int .u8 ((ad 11).toNat : Int), .int .u8 ((ad 12).toNat : Int), .int .u8 ((ad 13).toNat : Int), .int .u8 ((ad 14).toNat : Int), .int .u8 ((ad 15).toNat : Int), .int .u8 ((ad 16).toNat : Int), .int .u8 ((ad 17).toNat : Int), .int .u8 ((ad 18).toNat : Int), .int .u8 ((ad 19).toNat : Int), .bool ag, .string (strOf bd)] 34, .row (some ⟨p38, 0, none⟩) 6 6 5 1 (by8 ([119, 116, 97, 105, 100, 103] : List UInt8))] w419 := H418.sub (List.Sublist.cons _ (List.Sublist.cons_cons _ (List.Sublist.cons_cons _ (List.Sublist.slnil))))
                                  refine GP.sem 0 (fun w_ H_ => H_.ldA (o := 0) (ty := 34) (m := 27) (sub := [.int .u8 (o.toNat : Int), .int .u8 (wh.toNat : Int), .int .u8 (t.toNat : Int), .int .u64 (am : Int), .int .u64 (id : Int), .int .u8 ((ad 0).toNat : Int), .int .u8 ((ad 1).toNat : Int), .int .u8 ((ad 2).toNat : Int), .int .u8 ((ad 3).toNat : Int), .int .u8 ((ad 4).toNat : Int), .int .u8 ((ad 5).toNat : Int), .int .u8 ((ad 6).toNat : Int), .int .u8 ((ad 7).toNat : Int), .int .u8 ((ad 8).toNat : Int), .int .u8 ((ad 9).toNat : Int), .int .u8 ((ad 10).toNat : Int), .int .u8 ((ad 11).toNat : Int), .int .u8 ((ad 12).toNat : Int), .int .u8 ((ad 13).toNat : Int), .int .u8 ((ad 14).toNat : Int), .int .u8 ((ad 15).toNat : Int), .int .u8 ((ad 16).toNat : Int), .int .u8 ((ad 17).toNat : Int), .int .u8 ((ad 18).toNat : Int), .int .u8 ((ad 19).toNat : Int), .bool ag, .string (strOf bd)]) 0 rfl (by kernel_rfl) rfl rfl) [0, 2, 4, 167] [(0, .slice A xs.length c), (2, pt p3 0), (4, pt p9 0), (167, .agg #[.int .u8 (o.toNat : Int), .int .u8 (wh.toNat : Int), .int .u8 (t.toNat : Int), .int .u64 (am : Int), .int .u64 (id : Int), .int .u8 ((ad 0).toNat : Int), .int .u8 ((ad 1).toNat : Int), .int .u8 ((ad 2).toNat : Int), .int .u8 ((ad 3).toNat : Int), .int .u8 ((ad 4).toNat : Int), .int .u8 ((ad 5).toNat : Int), .int .u8 ((ad 6).toNat : Int), .int .u8 ((ad 7).toNat : Int), .int .u8 ((ad 8).toNat : Int), .int .u8 ((ad 9).toNat : Int), .int .u8 ((ad 10).toNat : Int), .int .u8 ((ad 11).toNat : Int), .int .u8 ((ad 12).toNat : Int), .int .u8 ((ad 13).toNat : Int), .int .u8 ((ad 14).toNat : Int), .int .u8 ((ad 15).toNat : Int), .int .u8 ((ad 16).toNat : Int), .int .u8 ((ad 17).toNat : Int), .int .u8 ((ad 18).toNat : Int), .int .u8 ((ad 19).toNat : Int), .bool ag, .string (strOf bd)])] (by kernel_rfl) (by kernel_rfl) (by kernel_rfl) hS420 ?_
                                  refine GP.sem 1 (fun w_ H_ => H_.ldA (o := 0) (ty := 34) (m := 27) (sub := [.int .u8 (o.toNat : Int), .int .u8 (wh.toNat : Int), .int .u8 (t.toNat : Int), .int .u64 (am : Int), .int .u64 (id : Int), .int .u8 ((ad 0).toNat : Int), .int .u8 ((ad 1).toNat : Int), .int .u8 ((ad 2).toNat : Int), .int .u8 ((ad 3).toNat : Int), .int .u8 ((ad 4).toNat : Int), .int .u8 ((ad 5).toNat : Int), .int .u8 ((ad 6).toNat : Int), .int .u8 ((ad 7).toNat : Int), .int .u8 ((ad 8).toNat : Int), .int .u8 ((ad 9).toNat : Int), .int .u8 ((ad 10).toNat : Int), .int .u8 ((ad 11).toNat : Int), .int .u8 ((ad 12).toNat : Int), .int .u8 ((ad 13).toNat : Int), .int .u8 ((ad 14).toNat : Int), .int .u8 ((ad 15).toNat : Int), .int .u8 ((ad 16).toNat : Int), .int .u8 ((ad 17).toNat : Int), .int .u8 ((ad 18).toNat : Int), .int .u8 ((ad 19).toNat : Int), .bool ag, .string (strOf bd)]) 0 rfl (by kernel_rfl) rfl rfl) [0, 2, 167, 168] [(0, .slice A xs.length c), (2, pt p3 0), (167, .agg #[.int .u8 (o.toNat : Int), .int .u8 (wh.toNat : Int), .int .u8 (t.toNat : Int), .int .u64 (am : Int), .int .u64 (id : Int), .int .u8 ((ad 0).toNat : Int), .int .u8 ((ad 1).toNat : Int), .int .u8 ((ad 2).toNat : Int), .int .u8 ((ad 3).toNat : Int), .int .u8 ((ad 4).toNat : Int), .int .u8 ((ad 5).toNat : Int), .int .u8 ((ad 6).toNat : Int), .int .u8 ((ad 7).toNat : Int), .int .u8 ((ad 8).toNat : Int), .int .u8 ((ad 9).toNat : Int), .int .u8 ((ad 10).toNat : Int), .int .u8 ((ad 11).toNat : Int), .int .u8 ((ad 12).toNat : Int), .int .u8 ((ad 13).toNat : Int), .int .u8 ((ad 14).toNat : Int), .int .u8 ((ad 15).toNat : Int), .int .u8 ((ad 16).toNat : Int), .int .u8 ((ad 17).toNat : Int), .int .u8 ((ad 18).toNat : Int), .int .u8 ((ad 19).toNat : Int), .bool ag, .string (strOf bd)]), (168, .agg #[.int .u8 (o.toNat : Int), .int .u8 (wh.toNat : Int), .int .u8 (t.toNat : Int), .int .u64 (am : Int), .int .u64 (id : Int), .int .u8 ((ad 0).toNat : Int), .int .u8 ((ad 1).toNat : Int), .int .u8 ((ad 2).toNat : Int), .int .u8 ((ad 3).toNat : Int), .int .u8 ((ad 4).toNat : Int), .int .u8 ((ad 5).toNat : Int), .int .u8 ((ad 6).toNat : Int), .int .u8 ((ad 7).toNat : Int), .int .u8 ((ad 8).toNat : Int), .int .u8 ((ad 9).toNat : Int), .int .u8 ((ad 10).toNat : Int), .int .u8 ((ad 11).toNat : Int), .int .u8 ((ad 12).toNat : Int), .int .u8 ((ad 13).toNat : Int), .int .u8 ((ad 14).toNat : Int), .int .u8 ((ad 15).toNat : Int), .int .u8 ((ad 16).toNat : Int), .int .u8 ((ad 17).toNat : Int), .int .u8 ((ad 18).toNat : Int), .int .u8 ((ad 19).toNat : Int), .bool ag, .string (strOf bd)])] (by kernel_rfl) (by kernel_rfl) (by kernel_rfl) hS420 ?_
                                  refine GP.run [4] [2, 167, 168, 171] [(2, pt p3 0), (167, .agg #[.int .u8 (o.toNat : Int), .int .u8 (wh.toNat : Int), .int .u8 (t.toNat : Int), .int .u64 (am : Int), .int .u64 (id : Int), .int .u8 ((ad 0).toNat : Int), .int .u8 ((ad 1).toNat : Int), .int .u8 ((ad 2).toNat : Int), .int .u8 ((ad 3).toNat : Int), .int .u8 ((ad 4).toNat : Int), .int .u8 ((ad 5).toNat : Int), .int .u8 ((ad 6).toNat : Int), .int .u8 ((ad 7).toNat : Int), .int .u8 ((ad 8).toNat : Int), .int .u8 ((ad 9).toNat : Int), .int .u8 ((ad 10).toNat : Int), .int .u8 ((ad 11).toNat : Int), .int .u8 ((ad 12).toNat : Int), .int .u8 ((ad 13).toNat : Int), .int .u8 ((ad 14).toNat : Int), .int .u8 ((ad 15).toNat : Int), .int .u8 ((ad 16).toNat : Int), .int .u8 ((ad 17).toNat : Int), .int .u8 ((ad 18).toNat : Int), .int .u8 ((ad 19).toNat : Int), .bool ag, .string (strOf bd)]), (168, .agg #[.int .u8 (o.toNat : Int), .int .u8 (wh.toNat : Int), .int .u8 (t.toNat : Int), .int .u64 (am : Int), .int .u64 (id : Int), .int .u8 ((ad 0).toNat : Int), .int .u8 ((ad 1).toNat : Int), .int .u8 ((ad 2).toNat : Int), .int .u8 ((ad 3).toNat : Int), .int .u8 ((ad 4).toNat : Int), .int .u8 ((ad 5).toNat : Int), .int .u8 ((ad 6).toNat : Int), .int .u8 ((ad 7).toNat : Int), .int .u8 ((ad 8).toNat : Int), .int .u8 ((ad 9).toNat : Int), .int .u8 ((ad 10).toNat : Int), .int .u8 ((ad 11).toNat : Int), .int .u8 ((ad 12).toNat : Int), .int .u8 ((ad 13).toNat : Int), .int .u8 ((ad 14).toNat : Int), .int .u8 ((ad 15).toNat : Int), .int .u8 ((ad 16).toNat : Int), .int .u8 ((ad 17).toNat : Int), .int .u8 ((ad 18).toNat : Int), .int .u8 ((ad 19).toNat : Int), .bool ag, .string (strOf bd)]), (171, .slice A xs.length c)] [0, 1, 4] (by kernel_rfl) rfl hS420 ?_
                                  refine GP.sem 5 (fun w_ H_ => run_toStr (P := Try.prog) (src := 26) (dst := 9) (A := A) (bs := xs) (n := xs.length) (c := c) (by kernel_rfl) (by kernel_rfl) (hx.hp H_) (rfl)) [2, 167, 168, 172] [(2, pt p3 0), (167, .agg #[.int .u8 (o.toNat : Int), .int .u8 (wh.toNat : Int), .int .u8 (t.toNat : Int), .int .u64 (am : Int), .int .u64 (id : Int), .int .u8 ((ad 0).toNat : Int), .int .u8 ((ad 1).toNat : Int), .int .u8 ((ad 2).toNat : Int), .int .u8 ((ad 3).toNat : Int), .int .u8 ((ad 4).toNat : Int), .int .u8 ((ad 5).toNat : Int), .int .u8 ((ad 6).toNat : Int), .int .u8 ((ad 7).toNat : Int), .int .u8 ((ad 8).toNat : Int), .int .u8 ((ad 9).toNat : Int), .int .u8 ((ad 10).toNat : Int), .int .u8 ((ad 11).toNat : Int), .int .u8 ((ad 12).toNat : Int), .int .u8 ((ad 13).toNat : Int), .int .u8 ((ad 14).toNat : Int), .int .u8 ((ad 15).toNat : Int), .int .u8 ((ad 16).toNat : Int), .int .u8 ((ad 17).toNat : Int), .int .u8 ((ad 18).toNat : Int), .int .u8 ((ad 19).toNat : Int), .bool ag, .string (strOf bd)]), (168, .agg #[.int .u8 (o.toNat : Int), .int .u8 (wh.toNat : Int), .int .u8 (t.toNat : Int), .int .u64 (am : Int), .int .u64 (id : Int), .int .u8 ((ad 0).toNat : Int), .int .u8 ((ad 1).toNat : Int), .int .u8 ((ad 2).toNat : Int), .int .u8 ((ad 3).toNat : Int), .int .u8 ((ad 4).toNat : Int), .int .u8 ((ad 5).toNat : Int), .int .u8 ((ad 6).toNat : Int), .int .u8 ((ad 7).toNat : Int), .int .u8 ((ad 8).toNat : Int), .int .u8 ((ad 9).toNat : Int), .int .u8 ((ad 10).toNat : Int), .int .u8 ((ad 11).toNat : Int), .int .u8 ((ad 12).toNat : Int), .int .u8 ((ad 13).toNat : Int), .int .u8 ((ad 14).toNat : Int), .int .u8 ((ad 15).toNat : Int), .int .u8 ((ad 16).toNat : Int), .int .u8 ((ad 17).toNat : Int), .int .u8 ((ad 18).toNat : Int), .int .u8 ((ad 19).toNat : Int), .bool ag, .string (strOf bd)]), (172, .string (strOf xs))] (by kernel_rfl) (by kernel_rfl) (by kernel_rfl) hS420 ?_
                                  refine GP.call 2 (RBytes27_calls o wh t am id ad ag bd w419 (by omega) (by omega) (by omega)) (by kernel_rfl) (by kernel_rfl) (fun e_ w424 hR => ?_)
                                  obtain ⟨A421, c422, c423, rfl, H426⟩ := hR
                                  have H425 : Hp w [] [.blk p3 [.int .u8 0, .int .u8 0, .int .u8 0, .int .u64 0, .int .u64 0, .int .u8 0, .int .u8 0, .int .u8 0, .int .u8 0, .int .u8 0, .int .u8 0, .int .u8 0, .int .u8 0, .int .u8 0, .int .u8 0, .int .u8 0, .int .u8 0, .int .u8 0, .int .u8 0, .int .u8 0, .int .u8 0, .int .u8 0, .int .u8 0, .int .u8 0, .int .u8 0, .bool false, .string ⟨#[]⟩] 34, .blk p9 [.int .u8 (o.toNat : Int), .int .u8 (wh.toNat : Int), .int .u8 (t.toNat : Int), .int .u64 (am : Int), .int .u64 (id : Int), .int .u8 ((ad 0).toNat : Int), .int .u8 ((ad 1).toNat : Int), .int .u8 ((ad 2).toNat : Int), .int .u8 ((ad 3).toNat : Int), .int .u8 ((ad 4).toNat : Int), .int .u8 ((ad 5).toNat : Int), .int .u8 ((ad 6).toNat : Int), .int .u8 ((ad 7).toNat : Int), .int .u8 ((ad 8).toNat : Int), .int .u8 ((ad 9).toNat : Int), .int .u8 ((ad 10).toNat : Int), .int .u8 ((ad 11).toNat : Int), .int .u8 ((ad 12).toNat : Int), .int .u8 ((ad 13).toNat : Int), .int .u8 ((ad 14).toNat : Int), .int .u8 ((ad 15).toNat : Int), .int .u8 ((ad 16).toNat : Int), .int .u8 ((ad 17).toNat : Int), .int .u8 ((ad 18).toNat : Int), .int .u8 ((ad 19).toNat : Int), .bool ag, .string (strOf bd)] 34, .row (some ⟨p38, 0, none⟩) 6 6 5 1 (by8 ([119, 116, 97, 105, 100, 103] : List UInt8)), .row A421 c422 c423 5 1 (by8 (cmdB o wh t am id ad ag bd))] w424 := H418.callNew H426
                                  have hlA421 := (H425.rowLe 3 rfl).2.1
                                  rw [by8_length, Nat.mul_one] at hlA421
                                  have hS427 : Hp w [] [.blk p9 [.int .u8 (o.toNat : Int), .int .u8 (wh.toNat : Int), .int .u8 (t.toNat : Int), .int .u64 (am : Int), .int .u64 (id : Int), .int .u8 ((ad 0).toNat : Int), .int .u8 ((ad 1).toNat : Int), .int .u8 ((ad 2).toNat : Int), .int .u8 ((ad 3).toNat : Int), .int .u8 ((ad 4).toNat : Int), .int .u8 ((ad 5).toNat : Int), .int .u8 ((ad 6).toNat : Int), .int .u8 ((ad 7).toNat : Int), .int .u8 ((ad 8).toNat : Int), .int .u8 ((ad 9).toNat : Int), .int .u8 ((ad 10).toNat : Int), .int .u8 ((ad 11).toNat : Int), .int .u8 ((ad 12).toNat : Int), .int .u8 ((ad 13).toNat : Int), .int .u8 ((ad 14).toNat : Int), .int .u8 ((ad 15).toNat : Int), .int .u8 ((ad 16).toNat : Int), .int .u8 ((ad 17).toNat : Int), .int .u8 ((ad 18).toNat : Int), .int .u8 ((ad 19).toNat : Int), .bool ag, .string (strOf bd)] 34, .row (some ⟨p38, 0, none⟩) 6 6 5 1 (by8 ([119, 116, 97, 105, 100, 103] : List UInt8))] w424 := H425.sub (List.Sublist.cons _ (List.Sublist.cons_cons _ (List.Sublist.cons_cons _ (List.Sublist.cons _ (List.Sublist.slnil)))))
                                  refine ⟨_, rfl, hS427, [2, 167, 169, 172], [(2, pt p3 0), (167, .agg #[.int .u8 (o.toNat : Int), .int .u8 (wh.toNat : Int), .int .u8 (t.toNat : Int), .int .u64 (am : Int), .int .u64 (id : Int), .int .u8 ((ad 0).toNat : Int), .int .u8 ((ad 1).toNat : Int), .int .u8 ((ad 2).toNat : Int), .int .u8 ((ad 3).toNat : Int), .int .u8 ((ad 4).toNat : Int), .int .u8 ((ad 5).toNat : Int), .int .u8 ((ad 6).toNat : Int), .int .u8 ((ad 7).toNat : Int), .int .u8 ((ad 8).toNat : Int), .int .u8 ((ad 9).toNat : Int), .int .u8 ((ad 10).toNat : Int), .int .u8 ((ad 11).toNat : Int), .int .u8 ((ad 12).toNat : Int), .int .u8 ((ad 13).toNat : Int), .int .u8 ((ad 14).toNat : Int), .int .u8 ((ad 15).toNat : Int), .int .u8 ((ad 16).toNat : Int), .int .u8 ((ad 17).toNat : Int), .int .u8 ((ad 18).toNat : Int), .int .u8 ((ad 19).toNat : Int), .bool ag, .string (strOf bd)]), (169, .slice A421 c422 c423), (172, .string (strOf xs))], by kernel_rfl, ?_⟩
                                  refine GP.weak (Hp w [] [.blk p9 [.int .u8 (o.toNat : Int), .int .u8 (wh.toNat : Int), .int .u8 (t.toNat : Int), .int .u64 (am : Int), .int .u64 (id : Int), .int .u8 ((ad 0).toNat : Int), .int .u8 ((ad 1).toNat : Int), .int .u8 ((ad 2).toNat : Int), .int .u8 ((ad 3).toNat : Int), .int .u8 ((ad 4).toNat : Int), .int .u8 ((ad 5).toNat : Int), .int .u8 ((ad 6).toNat : Int), .int .u8 ((ad 7).toNat : Int), .int .u8 ((ad 8).toNat : Int), .int .u8 ((ad 9).toNat : Int), .int .u8 ((ad 10).toNat : Int), .int .u8 ((ad 11).toNat : Int), .int .u8 ((ad 12).toNat : Int), .int .u8 ((ad 13).toNat : Int), .int .u8 ((ad 14).toNat : Int), .int .u8 ((ad 15).toNat : Int), .int .u8 ((ad 16).toNat : Int), .int .u8 ((ad 17).toNat : Int), .int .u8 ((ad 18).toNat : Int), .int .u8 ((ad 19).toNat : Int), .bool ag, .string (strOf bd)] 34, .row (some ⟨p38, 0, none⟩) 6 6 5 1 (by8 ([119, 116, 97, 105, 100, 103] : List UInt8)), .row A421 c422 c423 5 1 (by8 (cmdB o wh t am id ad ag bd))]) (fun w_ h_ => h_.sub (List.Sublist.cons_cons _ (List.Sublist.cons_cons _ (List.Sublist.cons _ (List.Sublist.slnil))))) ?_
                                  have hS428 : Hp w [] [.blk p9 [.int .u8 (o.toNat : Int), .int .u8 (wh.toNat : Int), .int .u8 (t.toNat : Int), .int .u64 (am : Int), .int .u64 (id : Int), .int .u8 ((ad 0).toNat : Int), .int .u8 ((ad 1).toNat : Int), .int .u8 ((ad 2).toNat : Int), .int .u8 ((ad 3).toNat : Int), .int .u8 ((ad 4).toNat : Int), .int .u8 ((ad 5).toNat : Int), .int .u8 ((ad 6).toNat : Int), .int .u8 ((ad 7).toNat : Int), .int .u8 ((ad 8).toNat : Int), .int .u8 ((ad 9).toNat : Int), .int .u8 ((ad 10).toNat : Int), .int .u8 ((ad 11).toNat : Int), .int .u8 ((ad 12).toNat : Int), .int .u8 ((ad 13).toNat : Int), .int .u8 ((ad 14).toNat : Int), .int .u8 ((ad 15).toNat : Int), .int .u8 ((ad 16).toNat : Int), .int .u8 ((ad 17).toNat : Int), .int .u8 ((ad 18).toNat : Int), .int .u8 ((ad 19).toNat : Int), .bool ag, .string (strOf bd)] 34, .row (some ⟨p38, 0, none⟩) 6 6 5 1 (by8 ([119, 116, 97, 105, 100, 103] : List UInt8)), .row A421 c422 c423 5 1 (by8 (cmdB o wh t am id ad ag bd))] w424 := H425.sub (List.Sublist.cons _ (List.Sublist.cons_cons _ (List.Sublist.cons_cons _ (List.Sublist.cons_cons _ (List.Sublist.slnil)))))
                                  refine GP.sem 3 (fun w_ H_ => run_toStr (P := Try.prog) (src := 26) (dst := 9) (A := A421) (bs := (cmdB o wh t am id ad ag bd)) (n := c422) (c := c423) (by kernel_rfl) (by kernel_rfl) (H_.rdRow 2 rfl) (hlA421.symm)) [2, 167, 170, 172] [(2, pt p3 0), (167, .agg #[.int .u8 (o.toNat : Int), .int .u8 (wh.toNat : Int), .int .u8 (t.toNat : Int), .int .u64 (am : Int), .int .u64 (id : Int), .int .u8 ((ad 0).toNat : Int), .int .u8 ((ad 1).toNat : Int), .int .u8 ((ad 2).toNat : Int), .int .u8 ((ad 3).toNat : Int), .int .u8 ((ad 4).toNat : Int), .int .u8 ((ad 5).toNat : Int), .int .u8 ((ad 6).toNat : Int), .int .u8 ((ad 7).toNat : Int), .int .u8 ((ad 8).toNat : Int), .int .u8 ((ad 9).toNat : Int), .int .u8 ((ad 10).toNat : Int), .int .u8 ((ad 11).toNat : Int), .int .u8 ((ad 12).toNat : Int), .int .u8 ((ad 13).toNat : Int), .int .u8 ((ad 14).toNat : Int), .int .u8 ((ad 15).toNat : Int), .int .u8 ((ad 16).toNat : Int), .int .u8 ((ad 17).toNat : Int), .int .u8 ((ad 18).toNat : Int), .int .u8 ((ad 19).toNat : Int), .bool ag, .string (strOf bd)]), (170, .string (strOf (cmdB o wh t am id ad ag bd))), (172, .string (strOf xs))] (by kernel_rfl) (by kernel_rfl) (by kernel_rfl) hS428 ?_
                                  refine GP.sem 6 (fun w_ H_ => run_str_eql (P := Try.prog) (t := 9) (cmdB o wh t am id ad ag bd) xs _) [2, 167, 173] [(2, pt p3 0), (167, .agg #[.int .u8 (o.toNat : Int), .int .u8 (wh.toNat : Int), .int .u8 (t.toNat : Int), .int .u64 (am : Int), .int .u64 (id : Int), .int .u8 ((ad 0).toNat : Int), .int .u8 ((ad 1).toNat : Int), .int .u8 ((ad 2).toNat : Int), .int .u8 ((ad 3).toNat : Int), .int .u8 ((ad 4).toNat : Int), .int .u8 ((ad 5).toNat : Int), .int .u8 ((ad 6).toNat : Int), .int .u8 ((ad 7).toNat : Int), .int .u8 ((ad 8).toNat : Int), .int .u8 ((ad 9).toNat : Int), .int .u8 ((ad 10).toNat : Int), .int .u8 ((ad 11).toNat : Int), .int .u8 ((ad 12).toNat : Int), .int .u8 ((ad 13).toNat : Int), .int .u8 ((ad 14).toNat : Int), .int .u8 ((ad 15).toNat : Int), .int .u8 ((ad 16).toNat : Int), .int .u8 ((ad 17).toNat : Int), .int .u8 ((ad 18).toNat : Int), .int .u8 ((ad 19).toNat : Int), .bool ag, .string (strOf bd)]), (173, .bool ((cmdB o wh t am id ad ag bd) == xs))] (by kernel_rfl) (by kernel_rfl) (by kernel_rfl) hS428 ?_
                                  obtain ⟨w429, r430, H431⟩ := H425.stA (P := Try.prog) (o := 0) (vs := [.int .u8 (o.toNat : Int), .int .u8 (wh.toNat : Int), .int .u8 (t.toNat : Int), .int .u64 (am : Int), .int .u64 (id : Int), .int .u8 ((ad 0).toNat : Int), .int .u8 ((ad 1).toNat : Int), .int .u8 ((ad 2).toNat : Int), .int .u8 ((ad 3).toNat : Int), .int .u8 ((ad 4).toNat : Int), .int .u8 ((ad 5).toNat : Int), .int .u8 ((ad 6).toNat : Int), .int .u8 ((ad 7).toNat : Int), .int .u8 ((ad 8).toNat : Int), .int .u8 ((ad 9).toNat : Int), .int .u8 ((ad 10).toNat : Int), .int .u8 ((ad 11).toNat : Int), .int .u8 ((ad 12).toNat : Int), .int .u8 ((ad 13).toNat : Int), .int .u8 ((ad 14).toNat : Int), .int .u8 ((ad 15).toNat : Int), .int .u8 ((ad 16).toNat : Int), .int .u8 ((ad 17).toNat : Int), .int .u8 ((ad 18).toNat : Int), .int .u8 ((ad 19).toNat : Int), .bool ag, .string (strOf bd)]) (ty := 34) (m := 27) 0 rfl (by kernel_rfl) rfl (by simp) (by simp [Value.oneCell'])
                                  have H431 : Hp w [] [.blk p3 [.int .u8 (o.toNat : Int), .int .u8 (wh.toNat : Int), .int .u8 (t.toNat : Int), .int .u64 (am : Int), .int .u64 (id : Int), .int .u8 ((ad 0).toNat : Int), .int .u8 ((ad 1).toNat : Int), .int .u8 ((ad 2).toNat : Int), .int .u8 ((ad 3).toNat : Int), .int .u8 ((ad 4).toNat : Int), .int .u8 ((ad 5).toNat : Int), .int .u8 ((ad 6).toNat : Int), .int .u8 ((ad 7).toNat : Int), .int .u8 ((ad 8).toNat : Int), .int .u8 ((ad 9).toNat : Int), .int .u8 ((ad 10).toNat : Int), .int .u8 ((ad 11).toNat : Int), .int .u8 ((ad 12).toNat : Int), .int .u8 ((ad 13).toNat : Int), .int .u8 ((ad 14).toNat : Int), .int .u8 ((ad 15).toNat : Int), .int .u8 ((ad 16).toNat : Int), .int .u8 ((ad 17).toNat : Int), .int .u8 ((ad 18).toNat : Int), .int .u8 ((ad 19).toNat : Int), .bool ag, .string (strOf bd)] 34, .blk p9 [.int .u8 (o.toNat : Int), .int .u8 (wh.toNat : Int), .int .u8 (t.toNat : Int), .int .u64 (am : Int), .int .u64 (id : Int), .int .u8 ((ad 0).toNat : Int), .int .u8 ((ad 1).toNat : Int), .int .u8 ((ad 2).toNat : Int), .int .u8 ((ad 3).toNat : Int), .int .u8 ((ad 4).toNat : Int), .int .u8 ((ad 5).toNat : Int), .int .u8 ((ad 6).toNat : Int), .int .u8 ((ad 7).toNat : Int), .int .u8 ((ad 8).toNat : Int), .int .u8 ((ad 9).toNat : Int), .int .u8 ((ad 10).toNat : Int), .int .u8 ((ad 11).toNat : Int), .int .u8 ((ad 12).toNat : Int), .int .u8 ((ad 13).toNat : Int), .int .u8 ((ad 14).toNat : Int), .int .u8 ((ad 15).toNat : Int), .int .u8 ((ad 16).toNat : Int), .int .u8 ((ad 17).toNat : Int), .int .u8 ((ad 18).toNat : Int), .int .u8 ((ad 19).toNat : Int), .bool ag, .string (strOf bd)] 34, .row (some ⟨p38, 0, none⟩) 6 6 5 1 (by8 ([119, 116, 97, 105, 100, 103] : List UInt8)), .row A421 c422 c423 5 1 (by8 (cmdB o wh t am id ad ag bd))] w429 := H431
                                  have hS432 : Hp w [] [.blk p9 [.int .u8 (o.toNat : Int), .int .u8 (wh.toNat : Int), .int .u8 (t.toNat : Int), .int .u64 (am : Int), .int .u64 (id : Int), .int .u8 ((ad 0).toNat : Int), .int .u8 ((ad 1).toNat : Int), .int .u8 ((ad 2).toNat : Int), .int .u8 ((ad 3).toNat : Int), .int .u8 ((ad 4).toNat : Int), .int .u8 ((ad 5).toNat : Int), .int .u8 ((ad 6).toNat : Int), .int .u8 ((ad 7).toNat : Int), .int .u8 ((ad 8).toNat : Int), .int .u8 ((ad 9).toNat : Int), .int .u8 ((ad 10).toNat : Int), .int .u8 ((ad 11).toNat : Int), .int .u8 ((ad 12).toNat : Int), .int .u8 ((ad 13).toNat : Int), .int .u8 ((ad 14).toNat : Int), .int .u8 ((ad 15).toNat : Int), .int .u8 ((ad 16).toNat : Int), .int .u8 ((ad 17).toNat : Int), .int .u8 ((ad 18).toNat : Int), .int .u8 ((ad 19).toNat : Int), .bool ag, .string (strOf bd)] 34, .row (some ⟨p38, 0, none⟩) 6 6 5 1 (by8 ([119, 116, 97, 105, 100, 103] : List UInt8)), .row A421 c422 c423 5 1 (by8 (cmdB o wh t am id ad ag bd))] w429 := H431.sub (List.Sublist.cons _ (List.Sublist.cons_cons _ (List.Sublist.cons_cons _ (List.Sublist.cons_cons _ (List.Sublist.slnil)))))
                                  refine GP.semU 7 r430 [2, 173] [(2, pt p3 0), (173, .bool ((cmdB o wh t am id ad ag bd) == xs))] (by kernel_rfl) rfl rfl (by kernel_rfl) hS432 ?_
                                  refine GP.run [8] [2, 3] [(2, pt p3 0), (3, .bool ((cmdB o wh t am id ad ag bd) == xs))] [0, 1, 4, 5, 2, 3, 6, 7, 8] (by kernel_rfl) rfl hS432 ?_
                                  refine GP.k (by kernel_rfl) hK417 (fun _ _ h => h) ?_
                                  refine G.ret ?_
                                  intro F_ hF_ hM_
                                  refine hRet _ _ (bodyPost_2 rfl (RV.cell rfl (H431.ldA (o := 0) (ty := 34) (m := 27) (sub := [.int .u8 (o.toNat : Int), .int .u8 (wh.toNat : Int), .int .u8 (t.toNat : Int), .int .u64 (am : Int), .int .u64 (id : Int), .int .u8 ((ad 0).toNat : Int), .int .u8 ((ad 1).toNat : Int), .int .u8 ((ad 2).toNat : Int), .int .u8 ((ad 3).toNat : Int), .int .u8 ((ad 4).toNat : Int), .int .u8 ((ad 5).toNat : Int), .int .u8 ((ad 6).toNat : Int), .int .u8 ((ad 7).toNat : Int), .int .u8 ((ad 8).toNat : Int), .int .u8 ((ad 9).toNat : Int), .int .u8 ((ad 10).toNat : Int), .int .u8 ((ad 11).toNat : Int), .int .u8 ((ad 12).toNat : Int), .int .u8 ((ad 13).toNat : Int), .int .u8 ((ad 14).toNat : Int), .int .u8 ((ad 15).toNat : Int), .int .u8 ((ad 16).toNat : Int), .int .u8 ((ad 17).toNat : Int), .int .u8 ((ad 18).toNat : Int), .int .u8 ((ad 19).toNat : Int), .bool ag, .string (strOf bd)]) 0 rfl (by kernel_rfl) rfl rfl)) (RV.tmp rfl) ?_ F_ hF_ hM_)
                                  refine ⟨o, wh, t, am, id, ad, ag, bd, _, rfl, H431.sub (List.nil_sublist _), hbd9, hlt2, hlt3, fun h => ⟨(eq_of_beq h).symm, hrp.right hf hbd0 hbd9⟩, fun h => ?_⟩
                                  intro o' w' t' am' id' ad' ag' bd' he hx
                                  obtain ⟨X0, X1, X2, X3, X4, X5, X6, hp⟩ := prt_of he hx
                                  have hoo : o = o' := by rw [ho, hp.1]; rfl
                                  subst hoo
                                  have hs := hrp.same hp (bd := bd) (fun hb => by obtain ⟨_, _, _, b4⟩ := hrp.body hp hb; rw [hbd1 hb]; exact b4)
                                  exact ne_of_beq_false h hs
                  · skip
                    have hb208f := of_decide_eq_true hb208
                    refine G.yes rfl ?_
                    refine G.seqK fun K433 hK434 => ?_
                    refine G.region ?_
                    refine GL.run (j := 1) 1 [2, 57] [(2, pt p3 0), (57, .agg #[.int .u8 0, .int .u8 0, .int .u8 0, .int .u64 0, .int .u64 0, .int .u8 0, .int .u8 0, .int .u8 0, .int .u8 0, .int .u8 0, .int .u8 0, .int .u8 0, .int .u8 0, .int .u8 0, .int .u8 0, .int .u8 0, .int .u8 0, .int .u8 0, .int .u8 0, .int .u8 0, .int .u8 0, .int .u8 0, .int .u8 0, .int .u8 0, .int .u8 0, .bool false, .string ⟨#[]⟩])] (by kernel_rfl) rfl ?_
                    obtain ⟨w435, r436, H437⟩ := H198.stA (P := Try.prog) (o := 0) (vs := [.int .u8 0, .int .u8 0, .int .u8 0, .int .u64 0, .int .u64 0, .int .u8 0, .int .u8 0, .int .u8 0, .int .u8 0, .int .u8 0, .int .u8 0, .int .u8 0, .int .u8 0, .int .u8 0, .int .u8 0, .int .u8 0, .int .u8 0, .int .u8 0, .int .u8 0, .int .u8 0, .int .u8 0, .int .u8 0, .int .u8 0, .int .u8 0, .int .u8 0, .bool false, .string ⟨#[]⟩]) (ty := 34) (m := 27) 0 rfl (by kernel_rfl) rfl (by simp) (by simp [Value.oneCell'])
                    have H437 : Hp w [] [.blk p3 [.int .u8 0, .int .u8 0, .int .u8 0, .int .u64 0, .int .u64 0, .int .u8 0, .int .u8 0, .int .u8 0, .int .u8 0, .int .u8 0, .int .u8 0, .int .u8 0, .int .u8 0, .int .u8 0, .int .u8 0, .int .u8 0, .int .u8 0, .int .u8 0, .int .u8 0, .int .u8 0, .int .u8 0, .int .u8 0, .int .u8 0, .int .u8 0, .int .u8 0, .bool false, .string ⟨#[]⟩] 34, .blk p9 [.int .u8 (o.toNat : Int), .int .u8 0, .int .u8 0, .int .u64 0, .int .u64 0, .int .u8 0, .int .u8 0, .int .u8 0, .int .u8 0, .int .u8 0, .int .u8 0, .int .u8 0, .int .u8 0, .int .u8 0, .int .u8 0, .int .u8 0, .int .u8 0, .int .u8 0, .int .u8 0, .int .u8 0, .int .u8 0, .int .u8 0, .int .u8 0, .int .u8 0, .int .u8 0, .bool false, .string ⟨#[]⟩] 34, .row (some ⟨p38, 0, none⟩) 6 6 5 1 (by8 ([119, 116, 97, 105, 100, 103] : List UInt8))] w435 := H437
                    refine GL.semU (j := 2) r436 [2] [(2, pt p3 0)] (by kernel_rfl) rfl rfl rfl ?_
                    refine GL.run (j := 3) 1 [2, 3] [(2, pt p3 0), (3, .bool false)] (by kernel_rfl) rfl ?_
                    refine GL.k rfl hK434 (fun _ _ h => h) ?_
                    refine G.ret ?_
                    intro F_ hF_ hM_
                    refine hRet _ _ (bodyPost_2 rfl (RV.cell rfl (H437.ldA (o := 0) (ty := 34) (m := 27) (sub := [.int .u8 0, .int .u8 0, .int .u8 0, .int .u64 0, .int .u64 0, .int .u8 0, .int .u8 0, .int .u8 0, .int .u8 0, .int .u8 0, .int .u8 0, .int .u8 0, .int .u8 0, .int .u8 0, .int .u8 0, .int .u8 0, .int .u8 0, .int .u8 0, .int .u8 0, .int .u8 0, .int .u8 0, .int .u8 0, .int .u8 0, .int .u8 0, .int .u8 0, .bool false, .string ⟨#[]⟩]) 0 rfl (by kernel_rfl) rfl rfl)) (RV.tmp rfl) ?_ F_ hF_ hM_)
                    have hno : ∀ (o' w' t' : UInt8) (am' id' : Nat) (ad' : Nat → UInt8) (ag' : Bool) (bd' : List UInt8), cmdE o' w' t' am' id' ad' ag' bd' = 0 → xs ≠ cmdB o' w' t' am' id' ad' ag' bd' := by
                      intro o' w' t' am' id' ad' ag' bd' he hx
                      obtain ⟨X0, X1, X2, X3, X4, X5, X6, hp⟩ := prt_of he hx
                      have hxl := congrArg List.length hp.1
                      rw [List.length_cons] at hxl
                      have hoo : o = o' := by rw [ho, hp.1]; rfl
                      subst hoo
                      have := prt_len hp hn0 hn1 hn2 hn3 hn4 hn5
                      omega
                    exact ⟨0, 0, 0, 0, 0, fun _ => 0, false, [], false, rfl, H437.sub (List.nil_sublist _), by decide, by decide, by decide, (fun h => by cases h), fun _ => hno⟩
    · skip
      have hb24f := eq_of_beq hb24
      have hfd : fd o.toNat = [] := eq_of_beq hb24
      have hf0 := (has_bits o.toNat).2.2.2.2.2.2.2
      refine G.yes rfl ?_
      refine G.seqK fun K438 hK439 => ?_
      refine G.region ?_
      refine GL.sem (j := 1) (H22.ldA (o := 0) (ty := 34) (m := 27) (sub := [.int .u8 0, .int .u8 0, .int .u8 0, .int .u64 0, .int .u64 0, .int .u8 0, .int .u8 0, .int .u8 0, .int .u8 0, .int .u8 0, .int .u8 0, .int .u8 0, .int .u8 0, .int .u8 0, .int .u8 0, .int .u8 0, .int .u8 0, .int .u8 0, .int .u8 0, .int .u8 0, .int .u8 0, .int .u8 0, .int .u8 0, .int .u8 0, .int .u8 0, .bool false, .string ⟨#[]⟩]) 1 rfl (by kernel_rfl) rfl rfl) [2, 24] [(2, pt p3 0), (24, .agg #[.int .u8 0, .int .u8 0, .int .u8 0, .int .u64 0, .int .u64 0, .int .u8 0, .int .u8 0, .int .u8 0, .int .u8 0, .int .u8 0, .int .u8 0, .int .u8 0, .int .u8 0, .int .u8 0, .int .u8 0, .int .u8 0, .int .u8 0, .int .u8 0, .int .u8 0, .int .u8 0, .int .u8 0, .int .u8 0, .int .u8 0, .int .u8 0, .int .u8 0, .bool false, .string ⟨#[]⟩])] (by kernel_rfl) (by kernel_rfl) rfl ?_
      obtain ⟨w440, r441, H442⟩ := H22.stA (P := Try.prog) (o := 0) (vs := [.int .u8 0, .int .u8 0, .int .u8 0, .int .u64 0, .int .u64 0, .int .u8 0, .int .u8 0, .int .u8 0, .int .u8 0, .int .u8 0, .int .u8 0, .int .u8 0, .int .u8 0, .int .u8 0, .int .u8 0, .int .u8 0, .int .u8 0, .int .u8 0, .int .u8 0, .int .u8 0, .int .u8 0, .int .u8 0, .int .u8 0, .int .u8 0, .int .u8 0, .bool false, .string ⟨#[]⟩]) (ty := 34) (m := 27) 0 rfl (by kernel_rfl) rfl (by simp) (by simp [Value.oneCell'])
      have H442 : Hp w [] [.blk p3 [.int .u8 0, .int .u8 0, .int .u8 0, .int .u64 0, .int .u64 0, .int .u8 0, .int .u8 0, .int .u8 0, .int .u8 0, .int .u8 0, .int .u8 0, .int .u8 0, .int .u8 0, .int .u8 0, .int .u8 0, .int .u8 0, .int .u8 0, .int .u8 0, .int .u8 0, .int .u8 0, .int .u8 0, .int .u8 0, .int .u8 0, .int .u8 0, .int .u8 0, .bool false, .string ⟨#[]⟩] 34, .blk p9 [.int .u8 0, .int .u8 0, .int .u8 0, .int .u64 0, .int .u64 0, .int .u8 0, .int .u8 0, .int .u8 0, .int .u8 0, .int .u8 0, .int .u8 0, .int .u8 0, .int .u8 0, .int .u8 0, .int .u8 0, .int .u8 0, .int .u8 0, .int .u8 0, .int .u8 0, .int .u8 0, .int .u8 0, .int .u8 0, .int .u8 0, .int .u8 0, .int .u8 0, .bool false, .string ⟨#[]⟩] 34] w440 := H442
      refine GL.semU (j := 2) r441 [2] [(2, pt p3 0)] (by kernel_rfl) rfl rfl rfl ?_
      refine GL.run (j := 3) 1 [2, 3] [(2, pt p3 0), (3, .bool false)] (by kernel_rfl) rfl ?_
      refine GL.k rfl hK439 (fun _ _ h => h) ?_
      refine G.ret ?_
      intro F_ hF_ hM_
      refine hRet _ _ (bodyPost_2 rfl (RV.cell rfl (H442.ldA (o := 0) (ty := 34) (m := 27) (sub := [.int .u8 0, .int .u8 0, .int .u8 0, .int .u64 0, .int .u64 0, .int .u8 0, .int .u8 0, .int .u8 0, .int .u8 0, .int .u8 0, .int .u8 0, .int .u8 0, .int .u8 0, .int .u8 0, .int .u8 0, .int .u8 0, .int .u8 0, .int .u8 0, .int .u8 0, .int .u8 0, .int .u8 0, .int .u8 0, .int .u8 0, .int .u8 0, .int .u8 0, .bool false, .string ⟨#[]⟩]) 0 rfl (by kernel_rfl) rfl rfl)) (RV.tmp rfl) ?_ F_ hF_ hM_)
      have hno : ∀ (o' w' t' : UInt8) (am' id' : Nat) (ad' : Nat → UInt8) (ag' : Bool) (bd' : List UInt8), cmdE o' w' t' am' id' ad' ag' bd' = 0 → xs ≠ cmdB o' w' t' am' id' ad' ag' bd' := by
        intro o' w' t' am' id' ad' ag' bd' he hx
        obtain ⟨X0, X1, X2, X3, X4, X5, X6, hp⟩ := prt_of he hx
        have hxl := congrArg List.length hp.1
        rw [List.length_cons] at hxl
        have hoo : o = o' := by rw [ho, hp.1]; rfl
        subst hoo
        exact hp.2.1 (hf0.1 hfd)
      exact ⟨0, 0, 0, 0, 0, fun _ => 0, false, [], false, rfl, H442.sub (List.nil_sublist _), by decide, by decide, by decide, (fun h => by cases h), fun _ => hno⟩
  · skip
    have hb20f := eq_of_beq hb20
    refine GL.run (j := 10) 6 [0, 2, 4, 23] [(0, .slice A xs.length c), (2, pt p3 0), (4, pt p9 0), (23, .bool true)] (by kernel_rfl) rfl ?_
    refine GL.k rfl hK19 (fun _ _ h => h) ?_
    refine G.yes rfl ?_
    refine G.seqK fun K443 hK444 => ?_
    refine G.region ?_
    refine GL.sem (j := 1) (H15.ldA (o := 0) (ty := 34) (m := 27) (sub := [.int .u8 0, .int .u8 0, .int .u8 0, .int .u64 0, .int .u64 0, .int .u8 0, .int .u8 0, .int .u8 0, .int .u8 0, .int .u8 0, .int .u8 0, .int .u8 0, .int .u8 0, .int .u8 0, .int .u8 0, .int .u8 0, .int .u8 0, .int .u8 0, .int .u8 0, .int .u8 0, .int .u8 0, .int .u8 0, .int .u8 0, .int .u8 0, .int .u8 0, .bool false, .string ⟨#[]⟩]) 1 rfl (by kernel_rfl) rfl rfl) [2, 24] [(2, pt p3 0), (24, .agg #[.int .u8 0, .int .u8 0, .int .u8 0, .int .u64 0, .int .u64 0, .int .u8 0, .int .u8 0, .int .u8 0, .int .u8 0, .int .u8 0, .int .u8 0, .int .u8 0, .int .u8 0, .int .u8 0, .int .u8 0, .int .u8 0, .int .u8 0, .int .u8 0, .int .u8 0, .int .u8 0, .int .u8 0, .int .u8 0, .int .u8 0, .int .u8 0, .int .u8 0, .bool false, .string ⟨#[]⟩])] (by kernel_rfl) (by kernel_rfl) rfl ?_
    obtain ⟨w445, r446, H447⟩ := H15.stA (P := Try.prog) (o := 0) (vs := [.int .u8 0, .int .u8 0, .int .u8 0, .int .u64 0, .int .u64 0, .int .u8 0, .int .u8 0, .int .u8 0, .int .u8 0, .int .u8 0, .int .u8 0, .int .u8 0, .int .u8 0, .int .u8 0, .int .u8 0, .int .u8 0, .int .u8 0, .int .u8 0, .int .u8 0, .int .u8 0, .int .u8 0, .int .u8 0, .int .u8 0, .int .u8 0, .int .u8 0, .bool false, .string ⟨#[]⟩]) (ty := 34) (m := 27) 0 rfl (by kernel_rfl) rfl (by simp) (by simp [Value.oneCell'])
    have H447 : Hp w [] [.blk p3 [.int .u8 0, .int .u8 0, .int .u8 0, .int .u64 0, .int .u64 0, .int .u8 0, .int .u8 0, .int .u8 0, .int .u8 0, .int .u8 0, .int .u8 0, .int .u8 0, .int .u8 0, .int .u8 0, .int .u8 0, .int .u8 0, .int .u8 0, .int .u8 0, .int .u8 0, .int .u8 0, .int .u8 0, .int .u8 0, .int .u8 0, .int .u8 0, .int .u8 0, .bool false, .string ⟨#[]⟩] 34, .blk p9 [.int .u8 0, .int .u8 0, .int .u8 0, .int .u64 0, .int .u64 0, .int .u8 0, .int .u8 0, .int .u8 0, .int .u8 0, .int .u8 0, .int .u8 0, .int .u8 0, .int .u8 0, .int .u8 0, .int .u8 0, .int .u8 0, .int .u8 0, .int .u8 0, .int .u8 0, .int .u8 0, .int .u8 0, .int .u8 0, .int .u8 0, .int .u8 0, .int .u8 0, .bool false, .string ⟨#[]⟩] 34] w445 := H447
    refine GL.semU (j := 2) r446 [2] [(2, pt p3 0)] (by kernel_rfl) rfl rfl rfl ?_
    refine GL.run (j := 3) 1 [2, 3] [(2, pt p3 0), (3, .bool false)] (by kernel_rfl) rfl ?_
    refine GL.k rfl hK444 (fun _ _ h => h) ?_
    refine G.ret ?_
    intro F_ hF_ hM_
    refine hRet _ _ (bodyPost_2 rfl (RV.cell rfl (H447.ldA (o := 0) (ty := 34) (m := 27) (sub := [.int .u8 0, .int .u8 0, .int .u8 0, .int .u64 0, .int .u64 0, .int .u8 0, .int .u8 0, .int .u8 0, .int .u8 0, .int .u8 0, .int .u8 0, .int .u8 0, .int .u8 0, .int .u8 0, .int .u8 0, .int .u8 0, .int .u8 0, .int .u8 0, .int .u8 0, .int .u8 0, .int .u8 0, .int .u8 0, .int .u8 0, .int .u8 0, .int .u8 0, .bool false, .string ⟨#[]⟩]) 0 rfl (by kernel_rfl) rfl rfl)) (RV.tmp rfl) ?_ F_ hF_ hM_)
    have hno : ∀ (o' w' t' : UInt8) (am' id' : Nat) (ad' : Nat → UInt8) (ag' : Bool) (bd' : List UInt8), cmdE o' w' t' am' id' ad' ag' bd' = 0 → xs ≠ cmdB o' w' t' am' id' ad' ag' bd' := by
      intro o' w' t' am' id' ad' ag' bd' he hx
      obtain ⟨X0, X1, X2, X3, X4, X5, X6, hp⟩ := prt_of he hx
      have hxl := congrArg List.length hp.1
      rw [List.length_cons] at hxl
      omega
    exact ⟨0, 0, 0, 0, 0, fun _ => 0, false, [], false, rfl, H447.sub (List.nil_sublist _), by decide, by decide, by decide, (fun h => by cases h), fun _ => hno⟩
end Go.Proofs.Ytkfhcogdpmndkaa
