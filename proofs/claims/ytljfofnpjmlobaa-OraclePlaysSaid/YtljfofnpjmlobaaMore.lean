/- The contracts of package oracle: told, copied, none there; may a price follow. -/
import Derived.Test.YtljfofnpjmlobaaLives
import Derived.Test.YtljfofnpjmlobaaRef5
namespace Go.Proofs.Ytljfofnpjmlobaa
open Go.RowKit
/-- Why a price is refused, as the statement says; what is told of a price. -/
def wantE (m p t q n : Nat) : Nat := if ¬ (1 ≤ q ∧ q ≤ 1099511627776) ∨ 1099511627776 < n then 1 else if 0 < p ∧ n ≤ t then 11 else if 0 < p ∧ ¬ (max p q - min p q) * 1000 ≤ p * m then 17 else 0
def priceE (g p t a : Nat) : Nat := if p = 0 then 12 else if a < t then 11 else if g < a - t then 18 else 0
def priceV (g p t a : Nat) : Nat := if priceE g p t a = 0 then p else 0
theorem band {m p q : Nat} (hp : 0 < p) (hp2 : p ≤ 1099511627776) (hq : 1 ≤ q ∧ q ≤ 1099511627776) : (lowV m p ≤ q ∧ q ≤ highV m p) ↔ (max p q - min p q) * 1000 ≤ p * m := by
  unfold lowV highV
  rw [if_neg (by omega), if_neg (by omega)]
  generalize p * m = N
  omega
theorem want_set {m p t q n : Nat} (hp2 : p ≤ 1099511627776) : setE m p t q n = wantE m p t q n := by
  unfold setE wantE
  by_cases h1 : ¬ (1 ≤ q ∧ q ≤ 1099511627776) ∨ 1099511627776 < n
  · rw [if_pos h1, if_pos h1]
  · rw [if_neg h1, if_neg h1]
    by_cases h2 : 0 < p ∧ n ≤ t
    · rw [if_pos h2, if_pos h2]
    · rw [if_neg h2, if_neg h2]
      by_cases h0 : p = 0
      · subst h0
        rw [if_neg (by rw [(bounds_none m).1, (bounds_none m).2]; omega), if_neg (by omega)]
      · have hb := band (m := m) (p := p) (q := q) (by omega) hp2 (by omega)
        generalize lowV m p = l at *
        generalize highV m p = h at *
        generalize (max p q - min p q) * 1000 = d at *
        generalize p * m = N at *
        by_cases hC : d ≤ N
        · rw [if_neg (by omega), if_neg (by omega)]
        · rw [if_pos (by omega), if_pos (by omega)]
theorem want_cases (m p t q n : Nat) : (wantE m p t q n = 1 ∧ (¬ (1 ≤ q ∧ q ≤ 1099511627776) ∨ 1099511627776 < n)) ∨ (wantE m p t q n = 11 ∧ ((1 ≤ q ∧ q ≤ 1099511627776) ∧ n ≤ 1099511627776) ∧ 0 < p ∧ n ≤ t) ∨
    (wantE m p t q n = 17 ∧ ((1 ≤ q ∧ q ≤ 1099511627776) ∧ n ≤ 1099511627776) ∧ ¬ (0 < p ∧ n ≤ t) ∧ 0 < p ∧ ¬ (max p q - min p q) * 1000 ≤ p * m) ∨
    (wantE m p t q n = 0 ∧ ((1 ≤ q ∧ q ≤ 1099511627776) ∧ n ≤ 1099511627776) ∧ ¬ (0 < p ∧ n ≤ t) ∧ (p = 0 ∨ (max p q - min p q) * 1000 ≤ p * m)) := by
  unfold wantE
  generalize (max p q - min p q) * 1000 = d
  generalize p * m = N
  repeat' split
  all_goals omega
theorem price_cases (g p t a : Nat) : (priceE g p t a = 12 ∧ priceV g p t a = 0 ∧ p = 0) ∨ (priceE g p t a = 11 ∧ priceV g p t a = 0 ∧ p ≠ 0 ∧ a < t) ∨ (priceE g p t a = 18 ∧ priceV g p t a = 0 ∧ p ≠ 0 ∧ t ≤ a ∧ g < a - t) ∨ (priceE g p t a = 0 ∧ priceV g p t a = p ∧ p ≠ 0 ∧ t ≤ a ∧ a - t ≤ g) := by
  unfold priceV priceE
  repeat' split
  all_goals omega
theorem Price_calls (b m g p t a : Nat) (ha : a < K) (ht : t < K) (w : World) (hb : Blk w b [.int .u64 (m : Int), .int .u64 (g : Int), .int .u64 (p : Int), .int .u64 (t : Int)] 46) : Calls Try.prog 11 #[pt b 0, .int .u64 (a : Int)] w fun e w' => e = .returned (.tuple #[.int .u64 ((priceV g p t a : Nat) : Int), .int .i64 ((priceE g p t a : Nat) : Int)]) ∧ Hp w [b] [.blk b [.int .u64 (m : Int), .int .u64 (g : Int), .int .u64 (p : Int), .int .u64 (t : Int)] 46] w' := by
  have hMX : MX = 4611686018427387904 := rfl
  have hK0 : K = 18446744073709551616 := rfl
  have hK40 : K4 = 115792089237316195423570985008687907853269984665640564039457584007913129639936 := rfl
  refine calls_G (args := [pt b 0, .int .u64 (a : Int)]) Try.func11 rfl Try.ntmps11 rfl ?_
  intro Q0 hRet hNor hPan
  have H := Hp.startBlk hb
  have H : Hp w [b] [.blk b [.int .u64 (m : Int), .int .u64 (g : Int), .int .u64 (p : Int), .int .u64 (t : Int)] 46] w := H
  refine G.seqK fun K1 hK2 => ?_
  refine G.region ?_
  refine GL.run (j := 2) 2 [0, 1] [(0, pt b 0), (1, .int .u64 (a : Int))] (by kernel_rfl) rfl ?_
  refine GL.k rfl hK2 (fun _ _ h => h) ?_
  refine G.seqK fun K3 hK4 => ?_
  refine G.block ?_
  refine G.seqK fun K5 hK6 => ?_
  refine G.region ?_
  refine GL.run (j := 3) 3 [0, 1, 6] [(0, pt b 0), (1, .int .u64 (a : Int)), (6, .bool false)] (by kernel_rfl) rfl ?_
  refine GL.k rfl hK6 (fun _ _ h => h) ?_
  refine G.no rfl ?_
  refine G.seqK fun K7 hK8 => ?_
  refine G.region ?_
  refine GL.run (j := 3) 3 [0, 1, 12] [(0, pt b 0), (1, .int .u64 (a : Int)), (12, pt b 2)] (by kernel_rfl) rfl ?_
  refine GL.sem (j := 4) (H.ld (o := 2) (ty := 23) (v := .int .u64 (p : Int)) 0 rfl (by kernel_rfl) rfl) [0, 1, 13] [(0, pt b 0), (1, .int .u64 (a : Int)), (13, .int .u64 (p : Int))] (by kernel_rfl) (by kernel_rfl) rfl ?_
  refine GL.run (j := 6) 2 [0, 1, 9] [(0, pt b 0), (1, .int .u64 (a : Int)), (9, .bool ((p : Int) == 0))] (by kernel_rfl) rfl ?_
  refine GL.k rfl hK8 (fun _ _ h => h) ?_
  cases hb9 : ((p : Int) == 0)
  · skip
    have hb9f := ne_of_beq_false hb9
    refine G.no rfl ?_
    refine G.seqK fun K10 hK11 => ?_
    refine G.region ?_
    refine GL.run (j := 4) 4 [0, 1, 16, 19] [(0, pt b 0), (1, .int .u64 (a : Int)), (16, .int .u64 (a : Int)), (19, pt b 3)] (by kernel_rfl) rfl ?_
    refine GL.sem (j := 5) (H.ld (o := 3) (ty := 22) (v := .int .u64 (t : Int)) 0 rfl (by kernel_rfl) rfl) [0, 1, 16, 20] [(0, pt b 0), (1, .int .u64 (a : Int)), (16, .int .u64 (a : Int)), (20, .int .u64 (t : Int))] (by kernel_rfl) (by kernel_rfl) rfl ?_
    refine GL.run (j := 7) 2 [0, 1, 15] [(0, pt b 0), (1, .int .u64 (a : Int)), (15, .bool (decide ((a : Int) < (t : Int))))] (by kernel_rfl) rfl ?_
    refine GL.k rfl hK11 (fun _ _ h => h) ?_
    cases hb12 : (decide ((a : Int) < (t : Int)))
    · skip
      have hb12f := of_decide_eq_false hb12
      refine G.no rfl ?_
      refine G.seqK fun K13 hK14 => ?_
      refine G.draw H (by kernel_rfl) (by kernel_rfl) ?_
      refine GQ.run (j := 4) 4 [0, 23, 26] [(0, pt b 0), (23, .int .u64 (a : Int)), (26, pt b 3)] (by kernel_rfl) rfl ?_
      refine GQ.sem (j := 5) (fun w_ H_ => H_.ld (o := 3) (ty := 22) (v := .int .u64 (t : Int)) 0 rfl (by kernel_rfl) rfl) [0, 23, 27] [(0, pt b 0), (23, .int .u64 (a : Int)), (27, .int .u64 (t : Int))] (by kernel_rfl) (by kernel_rfl) rfl ?_
      refine GQ.run (j := 10) 5 [0, 28, 32] [(0, pt b 0), (28, .int .u64 (IntKind.u64.wrap ((a : Int) - (t : Int)))), (32, pt b 1)] (by kernel_rfl) rfl ?_
      have e15 : (IntKind.u64.wrap ((a : Int) - (t : Int))) = ((a - t : Nat) : Int) := n_sub (a := a) (b := t) (by omega) (by omega)
      refine GQ.eq (M' := [(0, pt b 0), (28, .int .u64 ((a - t : Nat) : Int)), (32, pt b 1)]) (by rw [e15]) ?_
      clear e15
      refine GQ.sem (j := 11) (fun w_ H_ => H_.ld (o := 1) (ty := 22) (v := .int .u64 (g : Int)) 0 rfl (by kernel_rfl) rfl) [0, 28, 33] [(0, pt b 0), (28, .int .u64 ((a - t : Nat) : Int)), (33, .int .u64 (g : Int))] (by kernel_rfl) (by kernel_rfl) rfl ?_
      refine GQ.run (j := 13) 2 [0, 22] [(0, pt b 0), (22, .bool (decide ((g : Int) < ((a - t : Nat) : Int))))] (by kernel_rfl) rfl ?_
      refine GQ.k rfl hK14 (fun _ _ h => h) (fun w16 H17 => ?_)
      cases hb18 : (decide ((g : Int) < ((a - t : Nat) : Int)))
      · skip
        have hb18f := of_decide_eq_false hb18
        refine G.no rfl ?_
        refine G.skipK hK4 (fun _ _ h => h) ?_
        refine G.seqK fun K19 hK20 => ?_
        refine G.region ?_
        refine GL.run (j := 3) 3 [37] [(37, pt b 2)] (by kernel_rfl) rfl ?_
        refine GL.sem (j := 4) (H17.ld (o := 2) (ty := 23) (v := .int .u64 (p : Int)) 0 rfl (by kernel_rfl) rfl) [38] [(38, .int .u64 (p : Int))] (by kernel_rfl) (by kernel_rfl) rfl ?_
        refine GL.run (j := 6) 2 [4, 5] [(4, .int .u64 (p : Int)), (5, .int .i64 0)] (by kernel_rfl) rfl ?_
        refine GL.k rfl hK20 (fun _ _ h => h) ?_
        refine G.ret ?_
        intro F_ hF_ hM_
        refine hRet _ _ (bodyPost_2 rfl (RV.tmp rfl) (RV.tmp rfl) ?_ F_ hF_ hM_)
        have c0 := price_cases g p t a
        have e1 : priceV g p t a = p := by omega
        have e2 : priceE g p t a = 0 := by omega
        rw [e1, e2]
        exact ⟨rfl, H17⟩
      · skip
        have hb18f := of_decide_eq_true hb18
        refine G.yes rfl ?_
        refine G.seqK fun K21 hK22 => ?_
        refine G.region ?_
        refine GL.run (j := 2) 2 [4, 5] [(4, .int .u64 0), (5, .int .i64 18)] (by kernel_rfl) rfl ?_
        refine GL.k rfl hK22 (fun _ _ h => h) ?_
        refine G.ret ?_
        intro F_ hF_ hM_
        refine hRet _ _ (bodyPost_2 rfl (RV.tmp rfl) (RV.tmp rfl) ?_ F_ hF_ hM_)
        have c0 := price_cases g p t a
        have e1 : priceV g p t a = 0 := by omega
        have e2 : priceE g p t a = 18 := by omega
        rw [e1, e2]
        exact ⟨rfl, H17⟩
    · skip
      have hb12f := of_decide_eq_true hb12
      refine G.yes rfl ?_
      refine G.seqK fun K23 hK24 => ?_
      refine G.region ?_
      refine GL.run (j := 2) 2 [4, 5] [(4, .int .u64 0), (5, .int .i64 11)] (by kernel_rfl) rfl ?_
      refine GL.k rfl hK24 (fun _ _ h => h) ?_
      refine G.ret ?_
      intro F_ hF_ hM_
      refine hRet _ _ (bodyPost_2 rfl (RV.tmp rfl) (RV.tmp rfl) ?_ F_ hF_ hM_)
      have c0 := price_cases g p t a
      have e1 : priceV g p t a = 0 := by omega
      have e2 : priceE g p t a = 11 := by omega
      rw [e1, e2]
      exact ⟨rfl, H⟩
  · skip
    have hb9f := eq_of_beq hb9
    refine G.yes rfl ?_
    refine G.seqK fun K25 hK26 => ?_
    refine G.region ?_
    refine GL.run (j := 2) 2 [4, 5] [(4, .int .u64 0), (5, .int .i64 12)] (by kernel_rfl) rfl ?_
    refine GL.k rfl hK26 (fun _ _ h => h) ?_
    refine G.ret ?_
    intro F_ hF_ hM_
    refine hRet _ _ (bodyPost_2 rfl (RV.tmp rfl) (RV.tmp rfl) ?_ F_ hF_ hM_)
    have c0 := price_cases g p t a
    have e1 : priceV g p t a = 0 := by omega
    have e2 : priceE g p t a = 12 := by omega
    rw [e1, e2]
    exact ⟨rfl, H⟩
theorem Price_nil (a : Nat) (w : World) : Calls Try.prog 11 #[.pointer none, .int .u64 (a : Int)] w fun e w' => e = .returned (.tuple #[.int .u64 0, .int .i64 1]) ∧ Hp w [] [] w' := by
  refine calls_G (args := [.pointer none, .int .u64 (a : Int)]) Try.func11 rfl Try.ntmps11 rfl ?_
  intro Q0 hRet hNor hPan
  have H := Hp.start w
  have H : Hp w [] [] w := H
  refine G.seqK fun K1 hK2 => ?_
  refine G.region ?_
  refine GL.run (j := 2) 2 [0, 1] [(0, .pointer none), (1, .int .u64 (a : Int))] (by kernel_rfl) rfl ?_
  refine GL.k rfl hK2 (fun _ _ h => h) ?_
  refine G.seqK fun K3 hK4 => ?_
  refine G.block ?_
  refine G.seqK fun K5 hK6 => ?_
  refine G.region ?_
  refine GL.run (j := 3) 3 [0, 1, 6] [(0, .pointer none), (1, .int .u64 (a : Int)), (6, .bool true)] (by kernel_rfl) rfl ?_
  refine GL.k rfl hK6 (fun _ _ h => h) ?_
  refine G.yes rfl ?_
  refine G.seqK fun K7 hK8 => ?_
  refine G.region ?_
  refine GL.run (j := 2) 2 [4, 5] [(4, .int .u64 0), (5, .int .i64 1)] (by kernel_rfl) rfl ?_
  refine GL.k rfl hK8 (fun _ _ h => h) ?_
  refine G.ret ?_
  intro F_ hF_ hM_
  refine hRet _ _ (bodyPost_2 rfl (RV.tmp rfl) (RV.tmp rfl) ?_ F_ hF_ hM_)
  exact ⟨rfl, H.sub (List.nil_sublist _)⟩
theorem Last_nil (w : World) : Calls Try.prog 9 #[.pointer none] w fun e w' => e = .returned (.tuple #[.int .u64 0, .int .u64 0, .bool false]) ∧ Hp w [] [] w' := by
  refine calls_G (args := [.pointer none]) Try.func9 rfl Try.ntmps9 rfl ?_
  intro Q0 hRet hNor hPan
  have H := Hp.start w
  have H : Hp w [] [] w := H
  refine G.seqK fun K1 hK2 => ?_
  refine G.region ?_
  refine GL.run (j := 3) 3 [0] [(0, .pointer none)] (by kernel_rfl) rfl ?_
  refine GL.k rfl hK2 (fun _ _ h => h) ?_
  refine G.seqK fun K3 hK4 => ?_
  refine G.seqK fun K5 hK6 => ?_
  refine G.region ?_
  refine GL.run (j := 2) 2 [0, 6] [(0, .pointer none), (6, .bool true)] (by kernel_rfl) rfl ?_
  refine GL.k rfl hK6 (fun _ _ h => h) ?_
  refine G.yes rfl ?_
  refine G.seqK fun K7 hK8 => ?_
  refine G.region ?_
  refine GL.run (j := 3) 3 [2, 3, 4] [(2, .int .u64 0), (3, .int .u64 0), (4, .bool false)] (by kernel_rfl) rfl ?_
  refine GL.k rfl hK8 (fun _ _ h => h) ?_
  refine G.ret ?_
  intro F_ hF_ hM_
  refine hRet _ _ (bodyPost_3 rfl (RV.tmp rfl) (RV.tmp rfl) (RV.tmp rfl) ?_ F_ hF_ hM_)
  exact ⟨rfl, H.sub (List.nil_sublist _)⟩
theorem Bounds_nil (w : World) : Calls Try.prog 8 #[.pointer none] w fun e w' => e = .returned (.tuple #[.int .u64 0, .int .u64 0]) ∧ Hp w [] [] w' := by
  refine calls_G (args := [.pointer none]) Try.func8 rfl Try.ntmps8 rfl ?_
  intro Q0 hRet hNor hPan
  have H := Hp.start w
  have H : Hp w [] [] w := H
  refine G.seqK fun K1 hK2 => ?_
  refine G.region ?_
  refine GL.run (j := 2) 2 [0] [(0, .pointer none)] (by kernel_rfl) rfl ?_
  refine GL.k rfl hK2 (fun _ _ h => h) ?_
  refine G.seqK fun K3 hK4 => ?_
  refine G.block ?_
  refine G.seqK fun K5 hK6 => ?_
  refine G.region ?_
  refine GL.run (j := 3) 3 [0, 6] [(0, .pointer none), (6, .bool true)] (by kernel_rfl) rfl ?_
  refine GL.k rfl hK6 (fun _ _ h => h) ?_
  refine G.yes rfl ?_
  refine G.seqK fun K7 hK8 => ?_
  refine G.region ?_
  refine GL.run (j := 2) 2 [2, 3] [(2, .int .u64 0), (3, .int .u64 0)] (by kernel_rfl) rfl ?_
  refine GL.k rfl hK8 (fun _ _ h => h) ?_
  refine G.ret ?_
  intro F_ hF_ hM_
  refine hRet _ _ (bodyPost_2 rfl (RV.tmp rfl) (RV.tmp rfl) ?_ F_ hF_ hM_)
  exact ⟨rfl, H.sub (List.nil_sublist _)⟩
theorem Set_nil (a : Nat) (b : Nat) (w : World) : Calls Try.prog 7 #[.pointer none, .int .u64 (a : Int), .int .u64 (b : Int)] w fun e w' => e = .returned (.int .i64 1) ∧ Hp w [] [] w' := by
  refine calls_G (args := [.pointer none, .int .u64 (a : Int), .int .u64 (b : Int)]) Try.func7 rfl Try.ntmps7 rfl ?_
  intro Q0 hRet hNor hPan
  have H := Hp.start w
  have H : Hp w [] [] w := H
  refine G.seqK fun K1 hK2 => ?_
  refine G.region ?_
  refine GL.run (j := 1) 1 [0, 1, 2] [(0, .pointer none), (1, .int .u64 (a : Int)), (2, .int .u64 (b : Int))] (by kernel_rfl) rfl ?_
  refine GL.k rfl hK2 (fun _ _ h => h) ?_
  refine G.seqK fun K3 hK4 => ?_
  refine G.block ?_
  refine G.seqK fun K5 hK6 => ?_
  refine G.region ?_
  refine GL.run (j := 12) 12 [0, 1, 2, 9] [(0, .pointer none), (1, .int .u64 (a : Int)), (2, .int .u64 (b : Int)), (9, .bool true)] (by kernel_rfl) rfl ?_
  refine GL.k rfl hK6 (fun _ _ h => h) ?_
  refine G.yes rfl ?_
  refine G.seqK fun K7 hK8 => ?_
  refine G.region ?_
  refine GL.run (j := 1) 1 [6] [(6, .int .i64 1)] (by kernel_rfl) rfl ?_
  refine GL.k rfl hK8 (fun _ _ h => h) ?_
  refine G.ret ?_
  intro F_ hF_ hM_
  refine hRet _ _ (bodyPost_1 rfl (RV.tmp rfl) ?_ F_ hF_ hM_)
  exact ⟨rfl, H.sub (List.nil_sublist _)⟩
theorem Copy_nil (w : World) : Calls Try.prog 12 #[.pointer none] w fun e w' => e = .returned (.pointer none) ∧ Hp w [] [] w' := by
  refine calls_G (args := [.pointer none]) Try.func12 rfl Try.ntmps12 rfl ?_
  intro Q0 hRet hNor hPan
  have H := Hp.start w
  have H : Hp w [] [] w := H
  refine G.seqK fun K1 hK2 => ?_
  refine G.region ?_
  refine GL.run (j := 1) 1 [0] [(0, .pointer none)] (by kernel_rfl) rfl ?_
  refine GL.k rfl hK2 (fun _ _ h => h) ?_
  refine G.seqK fun K3 hK4 => ?_
  refine G.seqK fun K5 hK6 => ?_
  refine G.region ?_
  refine GL.run (j := 2) 2 [0, 5] [(0, .pointer none), (5, .bool true)] (by kernel_rfl) rfl ?_
  refine GL.k rfl hK6 (fun _ _ h => h) ?_
  refine G.yes rfl ?_
  refine G.seqK fun K7 hK8 => ?_
  refine G.region ?_
  refine GL.run (j := 1) 1 [2] [(2, .pointer none)] (by kernel_rfl) rfl ?_
  refine GL.k rfl hK8 (fun _ _ h => h) ?_
  refine G.ret ?_
  intro F_ hF_ hM_
  refine hRet _ _ (bodyPost_1 rfl (RV.tmp rfl) ?_ F_ hF_ hM_)
  exact ⟨rfl, H.sub (List.nil_sublist _)⟩
theorem Copy_calls (b m g p t : Nat) (w : World) (hb : Blk w b [.int .u64 (m : Int), .int .u64 (g : Int), .int .u64 (p : Int), .int .u64 (t : Int)] 46) : Calls Try.prog 12 #[pt b 0] w fun e w' => ∃ b', e = .returned (.pointer (some ⟨b', 0, none⟩)) ∧ Hp w [] [.blk b' [.int .u64 (m : Int), .int .u64 (g : Int), .int .u64 (p : Int), .int .u64 (t : Int)] 46] w' := by
  refine calls_G (args := [pt b 0]) Try.func12 rfl Try.ntmps12 rfl ?_
  intro Q0 hRet hNor hPan
  have H := Hp.start w
  have H : Hp w [] [] w := H
  refine G.seqK fun K1 hK2 => ?_
  refine G.region ?_
  refine GL.run (j := 1) 1 [0] [(0, pt b 0)] (by kernel_rfl) rfl ?_
  refine GL.k rfl hK2 (fun _ _ h => h) ?_
  refine G.seqK fun K3 hK4 => ?_
  refine G.seqK fun K5 hK6 => ?_
  refine G.region ?_
  refine GL.run (j := 2) 2 [0, 5] [(0, pt b 0), (5, .bool false)] (by kernel_rfl) rfl ?_
  refine GL.k rfl hK6 (fun _ _ h => h) ?_
  refine G.no rfl ?_
  refine G.skipK hK4 (fun _ _ h => h) ?_
  refine G.seqK fun K7 hK8 => ?_
  refine G.region ?_
  refine GL.run (j := 2) 2 [7] [(7, pt b 0)] (by kernel_rfl) rfl ?_
  refine GL.sem (j := 3) (run_ldA (P := Try.prog) (o := 0) (ty := 46) (m := 4) (sub := [.int .u64 (m : Int), .int .u64 (g : Int), .int .u64 (p : Int), .int .u64 (t : Int)]) (by kernel_rfl) (H.oldBlk hb) rfl rfl) [8] [(8, .agg #[.int .u64 (m : Int), .int .u64 (g : Int), .int .u64 (p : Int), .int .u64 (t : Int)])] (by kernel_rfl) (by kernel_rfl) rfl ?_
  obtain ⟨p9, w10, r11, H12⟩ := H.alloc (P := Try.prog) 46 [.int .u64 0, .int .u64 0, .int .u64 0, .int .u64 0] (by kernel_rfl)
  have H12 : Hp w [] [.blk p9 [.int .u64 0, .int .u64 0, .int .u64 0, .int .u64 0] 46] w10 := H12
  refine GL.sem (j := 4) (r11) [3, 8] [(3, pt p9 0), (8, .agg #[.int .u64 (m : Int), .int .u64 (g : Int), .int .u64 (p : Int), .int .u64 (t : Int)])] (by kernel_rfl) (by kernel_rfl) rfl ?_
  obtain ⟨w13, r14, H15⟩ := H12.stA (P := Try.prog) (o := 0) (vs := [.int .u64 (m : Int), .int .u64 (g : Int), .int .u64 (p : Int), .int .u64 (t : Int)]) (ty := 46) (m := 4) 0 rfl (by kernel_rfl) rfl (by simp) (by simp [Value.oneCell'])
  have H15 : Hp w [] [.blk p9 [.int .u64 (m : Int), .int .u64 (g : Int), .int .u64 (p : Int), .int .u64 (t : Int)] 46] w13 := H15
  refine GL.semU (j := 5) r14 [3] [(3, pt p9 0)] (by kernel_rfl) rfl rfl rfl ?_
  refine GL.k rfl hK8 (fun _ _ h => h) ?_
  refine G.seqK fun K16 hK17 => ?_
  refine G.region ?_
  refine GL.run (j := 1) 1 [2] [(2, pt p9 0)] (by kernel_rfl) rfl ?_
  refine GL.k rfl hK17 (fun _ _ h => h) ?_
  refine G.ret ?_
  intro F_ hF_ hM_
  refine hRet _ _ (bodyPost_1 rfl (RV.tmp rfl) ?_ F_ hF_ hM_)
  have HF : Hp w [] [.blk p9 [.int .u64 (m : Int), .int .u64 (g : Int), .int .u64 (p : Int), .int .u64 (t : Int)] 46] w13 := H15.sub (List.Sublist.cons_cons _ (List.Sublist.slnil))
  exact ⟨_, rfl, HF⟩
theorem New_bad (m g : Nat) (hb : ¬ (m ≤ 1000 ∧ g ≤ 1099511627776)) (w : World) : Calls Try.prog 6 #[.agg #[.int .u64 (m : Int), .int .u64 (g : Int)]] w fun e w' => e = .returned (.tuple #[.pointer none, .int .i64 1]) ∧ Hp w [] [] w' := by
  refine calls_G (args := [.agg #[.int .u64 (m : Int), .int .u64 (g : Int)]]) Try.func6 rfl Try.ntmps6 rfl ?_
  intro Q0 hRet hNor hPan
  have H := Hp.start w
  have H : Hp w [] [] w := H
  refine G.seqK fun K1 hK2 => ?_
  refine G.region ?_
  obtain ⟨p3, w4, r5, H6⟩ := H.box (P := Try.prog) 30 [.int .u64 (m : Int), .int .u64 (g : Int)] (.agg #[.int .u64 (m : Int), .int .u64 (g : Int)]) rfl
  have H6 : Hp w [] [.blk p3 [.int .u64 (m : Int), .int .u64 (g : Int)] 30] w4 := H6
  refine GL.sem (j := 1) (r5) [1] [(1, pt p3 0)] (by kernel_rfl) (by kernel_rfl) rfl ?_
  refine GL.run (j := 3) 2 [1] [(1, pt p3 0)] (by kernel_rfl) rfl ?_
  refine GL.k rfl hK2 (fun _ _ h => h) ?_
  refine G.seqK fun K7 hK8 => ?_
  refine G.seqK fun K9 hK10 => ?_
  refine G.region ?_
  refine GL.run (j := 1) 1 [1, 4] [(1, pt p3 0), (4, pt p3 0)] (by kernel_rfl) rfl ?_
  refine GL.sem (j := 2) (H6.ld (o := 0) (ty := 22) (v := .int .u64 (m : Int)) 0 rfl (by kernel_rfl) rfl) [1, 5] [(1, pt p3 0), (5, .int .u64 (m : Int))] (by kernel_rfl) (by kernel_rfl) rfl ?_
  refine GL.run (j := 4) 2 [1, 7] [(1, pt p3 0), (7, .bool (decide (1000 < (m : Int))))] (by kernel_rfl) rfl ?_
  cases hb11 : (decide (1000 < (m : Int)))
  · skip
    have hb11f := of_decide_eq_false hb11
    refine GL.run (j := 5) 1 [1, 7, 8] [(1, pt p3 0), (7, .bool false), (8, pt p3 1)] (by kernel_rfl) rfl ?_
    refine GL.sem (j := 6) (H6.ld (o := 1) (ty := 22) (v := .int .u64 (g : Int)) 0 rfl (by kernel_rfl) rfl) [1, 7, 9] [(1, pt p3 0), (7, .bool false), (9, .int .u64 (g : Int))] (by kernel_rfl) (by kernel_rfl) rfl ?_
    refine GL.run (j := 8) 2 [1, 11] [(1, pt p3 0), (11, .bool (decide (1099511627776 < (g : Int))))] (by kernel_rfl) rfl ?_
    refine GL.k rfl hK10 (fun _ _ h => h) ?_
    cases hb12 : (decide (1099511627776 < (g : Int)))
    · skip
      have hb12f := of_decide_eq_false hb12
      refine G.no rfl ?_
      refine G.skipK hK8 (fun _ _ h => h) ?_
      refine G.seqK fun K13 hK14 => ?_
      refine G.region ?_
      refine GL.sem (j := 1) (H6.ldA (o := 0) (ty := 30) (m := 2) (sub := [.int .u64 (m : Int), .int .u64 (g : Int)]) 0 rfl (by kernel_rfl) rfl rfl) [12] [(12, .agg #[.int .u64 (m : Int), .int .u64 (g : Int)])] (by kernel_rfl) (by kernel_rfl) rfl ?_
      refine GL.run (j := 2) 1 [13] [(13, .agg #[.int .u64 (m : Int), .int .u64 (g : Int), .int .u64 0, .int .u64 0])] (by kernel_rfl) rfl ?_
      obtain ⟨p15, w16, r17, H18⟩ := H6.box (P := Try.prog) 46 [.int .u64 (m : Int), .int .u64 (g : Int), .int .u64 0, .int .u64 0] (.agg #[.int .u64 (m : Int), .int .u64 (g : Int), .int .u64 0, .int .u64 0]) rfl
      have H18 : Hp w [] [.blk p3 [.int .u64 (m : Int), .int .u64 (g : Int)] 30, .blk p15 [.int .u64 (m : Int), .int .u64 (g : Int), .int .u64 0, .int .u64 0] 46] w16 := H18
      refine GL.sem (j := 3) (r17) [14] [(14, pt p15 0)] (by kernel_rfl) (by kernel_rfl) rfl ?_
      refine GL.run (j := 5) 2 [2, 3] [(2, pt p15 0), (3, .int .i64 0)] (by kernel_rfl) rfl ?_
      refine GL.k rfl hK14 (fun _ _ h => h) ?_
      refine G.ret ?_
      intro F_ hF_ hM_
      refine hRet _ _ (bodyPost_2 rfl (RV.tmp rfl) (RV.tmp rfl) ?_ F_ hF_ hM_)
      exfalso
      omega
    · skip
      have hb12f := of_decide_eq_true hb12
      refine G.yes rfl ?_
      refine G.seqK fun K19 hK20 => ?_
      refine G.region ?_
      refine GL.run (j := 2) 2 [2, 3] [(2, .pointer none), (3, .int .i64 1)] (by kernel_rfl) rfl ?_
      refine GL.k rfl hK20 (fun _ _ h => h) ?_
      refine G.ret ?_
      intro F_ hF_ hM_
      refine hRet _ _ (bodyPost_2 rfl (RV.tmp rfl) (RV.tmp rfl) ?_ F_ hF_ hM_)
      exact ⟨rfl, H6.sub (List.nil_sublist _)⟩
  · skip
    have hb11f := of_decide_eq_true hb11
    refine GL.run (j := 8) 4 [1, 11] [(1, pt p3 0), (11, .bool true)] (by kernel_rfl) rfl ?_
    refine GL.k rfl hK10 (fun _ _ h => h) ?_
    refine G.yes rfl ?_
    refine G.seqK fun K21 hK22 => ?_
    refine G.region ?_
    refine GL.run (j := 2) 2 [2, 3] [(2, .pointer none), (3, .int .i64 1)] (by kernel_rfl) rfl ?_
    refine GL.k rfl hK22 (fun _ _ h => h) ?_
    refine G.ret ?_
    intro F_ hF_ hM_
    refine hRet _ _ (bodyPost_2 rfl (RV.tmp rfl) (RV.tmp rfl) ?_ F_ hF_ hM_)
    exact ⟨rfl, H6.sub (List.nil_sublist _)⟩
theorem moves_calls (p q m : Nat) (hp : p < K) (hq : q < K) (hm : m < K) (w : World) : Calls Try.prog 10 #[.int .u64 (p : Int), .int .u64 (q : Int), .int .u64 (m : Int)] w fun e w' => e = .returned (.bool (decide ((max p q - min p q) * 1000 ≤ p * m))) ∧ Hp w [] [] w' := by
  have hMX : MX = 4611686018427387904 := rfl
  have hK0 : K = 18446744073709551616 := rfl
  have hK40 : K4 = 115792089237316195423570985008687907853269984665640564039457584007913129639936 := rfl
  refine calls_G (args := [.int .u64 (p : Int), .int .u64 (q : Int), .int .u64 (m : Int)]) Try.func10 rfl Try.ntmps10 rfl ?_
  intro Q0 hRet hNor hPan
  have H := Hp.start w
  have H : Hp w [] [] w := H
  refine G.seqK fun K1 hK2 => ?_
  refine G.region ?_
  refine GL.run (j := 1) 1 [0, 1, 2] [(0, .int .u64 (p : Int)), (1, .int .u64 (q : Int)), (2, .int .u64 (m : Int))] (by kernel_rfl) rfl ?_
  refine GL.k rfl hK2 (fun _ _ h => h) ?_
  refine G.seqK fun K3 hK4 => ?_
  refine G.region ?_
  refine GL.run (j := 8) 8 [0, 2, 7] [(0, .int .u64 (p : Int)), (2, .int .u64 (m : Int)), (7, .int .u64 (IntKind.u64.wrap ((if (q : Int) > (p : Int) then (q : Int) else (p : Int)) - (if (q : Int) < (p : Int) then (q : Int) else (p : Int)))))] (by kernel_rfl) rfl ?_
  have e5 : (if (q : Int) > (p : Int) then (q : Int) else (p : Int)) = (((max p q) : Nat) : Int) := max_int p q
  have e6 : (if (q : Int) < (p : Int) then (q : Int) else (p : Int)) = (((min p q) : Nat) : Int) := min_int p q
  have e7 : (IntKind.u64.wrap ((((max p q) : Nat) : Int) - (((min p q) : Nat) : Int))) = (((max p q) - (min p q) : Nat) : Int) := n_sub (a := (max p q)) (b := (min p q)) (by omega) (by omega)
  refine GL.eq (M' := [(0, .int .u64 (p : Int)), (2, .int .u64 (m : Int)), (7, .int .u64 (((max p q) - (min p q) : Nat) : Int))]) (by rw [e5, e6, e7]) ?_
  clear e5 e6 e7
  refine GL.k rfl hK4 (fun _ _ h => h) ?_
  refine G.seqK fun K8 hK9 => ?_
  refine G.region ?_
  refine GL.run (j := 1) 1 [0, 2, 15] [(0, .int .u64 (p : Int)), (2, .int .u64 (m : Int)), (15, .int .u64 (((max p q) - (min p q) : Nat) : Int))] (by kernel_rfl) rfl ?_
  obtain ⟨p10, w11, r12, H13⟩ := H.madeRow (P := Try.prog) (Instr.buildSlice 51 2 #[(0, .int .u64 (((max p q) - (min p q) : Nat) : Int)), (1, .int .u64 1000)]) (fun b_ => .slice (some ⟨b_, 0, none⟩) 2 2) [.int .u64 (((max p q) - (min p q) : Nat) : Int), .int .u64 1000] 22 2 2 1 (by kernel_rfl) (by decide) (by decide) rfl
  have H13 : Hp w [] [.row (some ⟨p10, 0, none⟩) 2 2 22 1 (dg [(max p q) - (min p q), 1000])] w11 := H13
  refine GL.sem (j := 2) (r12) [0, 2, 16] [(0, .int .u64 (p : Int)), (2, .int .u64 (m : Int)), (16, .slice (some ⟨p10, 0, none⟩) 2 2)] (by kernel_rfl) (by kernel_rfl) rfl ?_
  have hN19 : ndg (((max p q) - (min p q)) * 1000) ≤ 8 := ndg_mul (ndg_K (by omega)) (ndg_K (by decide))
  refine GL.call (j := 3) (Product5_2 ((max p q) - (min p q)) 1000 (by omega) (by decide) (some ⟨p10, 0, none⟩) 2 w11 (H13.rdRow 0 rfl)) (by kernel_rfl) rfl (fun e_ w18 hR => ?_)
  obtain ⟨A14, c15, rfl, H17⟩ := hR
  have H16 : Hp w [] [.row (some ⟨p10, 0, none⟩) 2 2 22 1 (dg [(max p q) - (min p q), 1000]), .row A14 (ndg (((max p q) - (min p q)) * 1000)) c15 22 1 (dg (digs (((max p q) - (min p q)) * 1000)))] w18 := H13.callNew H17
  refine ⟨_, rfl, [0, 2, 17], [(0, .int .u64 (p : Int)), (2, .int .u64 (m : Int)), (17, .slice A14 (ndg (((max p q) - (min p q)) * 1000)) c15)], by kernel_rfl, ?_⟩
  refine GL.run (j := 5) 2 [17, 18, 19] [(17, .slice A14 (ndg (((max p q) - (min p q)) * 1000)) c15), (18, .int .u64 (p : Int)), (19, .int .u64 (m : Int))] (by kernel_rfl) rfl ?_
  obtain ⟨p20, w21, r22, H23⟩ := H16.madeRow (P := Try.prog) (Instr.buildSlice 51 2 #[(0, .int .u64 (p : Int)), (1, .int .u64 (m : Int))]) (fun b_ => .slice (some ⟨b_, 0, none⟩) 2 2) [.int .u64 (p : Int), .int .u64 (m : Int)] 22 2 2 1 (by kernel_rfl) (by decide) (by decide) rfl
  have H23 : Hp w [] [.row (some ⟨p10, 0, none⟩) 2 2 22 1 (dg [(max p q) - (min p q), 1000]), .row A14 (ndg (((max p q) - (min p q)) * 1000)) c15 22 1 (dg (digs (((max p q) - (min p q)) * 1000))), .row (some ⟨p20, 0, none⟩) 2 2 22 1 (dg [p, m])] w21 := H23
  refine GL.sem (j := 6) (r22) [17, 20] [(17, .slice A14 (ndg (((max p q) - (min p q)) * 1000)) c15), (20, .slice (some ⟨p20, 0, none⟩) 2 2)] (by kernel_rfl) (by kernel_rfl) rfl ?_
  have hN29 : ndg (p * m) ≤ 8 := ndg_mul (ndg_K hp) (ndg_K hm)
  refine GL.call (j := 7) (Product5_2 p m hp hm (some ⟨p20, 0, none⟩) 2 w21 (H23.rdRow 2 rfl)) (by kernel_rfl) rfl (fun e_ w28 hR => ?_)
  obtain ⟨A24, c25, rfl, H27⟩ := hR
  have H26 : Hp w [] [.row (some ⟨p10, 0, none⟩) 2 2 22 1 (dg [(max p q) - (min p q), 1000]), .row A14 (ndg (((max p q) - (min p q)) * 1000)) c15 22 1 (dg (digs (((max p q) - (min p q)) * 1000))), .row (some ⟨p20, 0, none⟩) 2 2 22 1 (dg [p, m]), .row A24 (ndg (p * m)) c25 22 1 (dg (digs (p * m)))] w28 := H23.callNew H27
  refine ⟨_, rfl, [17, 21], [(17, .slice A14 (ndg (((max p q) - (min p q)) * 1000)) c15), (21, .slice A24 (ndg (p * m)) c25)], by kernel_rfl, ?_⟩
  refine GL.call (j := 8) (CmpN_calls (((max p q) - (min p q)) * 1000) (p * m) A14 A24 c15 c25 w28 (H26.rdRow 1 rfl) (H26.rdRow 3 rfl) (Nat.le_trans hN19 (by decide)) (Nat.le_trans hN29 (by decide))) (by kernel_rfl) rfl (fun e_ w30 hR => ?_)
  obtain ⟨rfl, H32⟩ := hR
  have H31 : Hp w [] [.row (some ⟨p10, 0, none⟩) 2 2 22 1 (dg [(max p q) - (min p q), 1000]), .row A14 (ndg (((max p q) - (min p q)) * 1000)) c15 22 1 (dg (digs (((max p q) - (min p q)) * 1000))), .row (some ⟨p20, 0, none⟩) 2 2 22 1 (dg [p, m]), .row A24 (ndg (p * m)) c25 22 1 (dg (digs (p * m)))] w30 := H26.callNil H32
  refine ⟨_, rfl, [22], [(22, .int .i64 (cmpN (((max p q) - (min p q)) * 1000) (p * m)))], by kernel_rfl, ?_⟩
  refine GL.run (j := 10) 2 [6] [(6, .bool (decide ((cmpN (((max p q) - (min p q)) * 1000) (p * m)) ≤ 0)))] (by kernel_rfl) rfl ?_
  refine GL.k rfl hK9 (fun _ _ h => h) ?_
  refine G.ret ?_
  intro F_ hF_ hM_
  refine hRet _ _ (bodyPost_1 rfl (RV.tmp rfl) ?_ F_ hF_ hM_)
  have e0 : ((decide ((cmpN (((max p q) - (min p q)) * 1000) (p * m)) ≤ 0)) : Bool) = decide ((max p q - min p q) * 1000 ≤ p * m) := by rw [Bool.eq_iff_iff]; simp only [decide_eq_true_eq, cmp_le0]
  rw [e0]
  exact ⟨rfl, H31.sub (List.nil_sublist _)⟩
end Go.Proofs.Ytljfofnpjmlobaa
